/- DERIVED. Texts of this seat, one behind the other: lemmas and walks that the statement RotNext needs. No condition. -/
import Derived.Test.YtkkhhbegeboonaaCRotNexta
import Derived.Test.YtkkhhbegeboonaaCRotNextc
import Derived.SizedLaws
import Derived.ChangeSlices
import Derived.ProofKit
import Derived.OpenShut
import Derived.ChangeOld
import Derived.Deep.Slices
-- Written by a program of this session (wip/tools/printx.py) over the kit's printer and texts of its own; it is no print of print.sh.





namespace Go.Proofs.Ytkkhhbegeboonaa.GAll
open Go.RowKit Go.Proofs.YtkkhhbegeboonaaW.PrintWords Go.Proofs.YtkkhhbegeboonaaW.PrintLast Go.Proofs.YtkkhhbegeboonaaW.PrintMore
attribute [local go_sem] max2_int min2_int max_two min_two max_three min_three max_four min_four   -- for this text's walks alone
set_option linter.unusedVariables false
set_option linter.unusedSimpArgs false

/-! ### tangramlaw11_RotNext: function 3 -/
mutual
def tangramlaw11_RotNext.j0 : Nat → List Int → Bool → Int → List (S59) → Option (Bool)
  | 0, _, _, _, _ => none
  | k + 1, x5, x38, x151000, x151001 => if x38 = true then (some false) else (if 0 ≤ x151000 then (if (x151000 : Int).toNat ≤ 35184372088832 then (if 0 ≤ (x5.length : Int) then (if ((x5.length : Int) : Int).toNat ≤ 281474976710656 then (tangramlaw11_RotNext.l0 k x5 (List.replicate (x151000 : Int).toNat 0) (List.replicate ((x5.length : Int) : Int).toNat false) (x5.length : Int) 0 x151000 x151001) else (none)) else (none)) else (none)) else (none))
def tangramlaw11_RotNext.l0 : Nat → List Int → List Int → List Bool → Int → Int → Int → List (S59) → Option (Bool)
  | 0, _, _, _, _, _, _, _ => none
  | k + 1, x5, x7, x8, x46, x47, x151000, x151001 => if x47 < x46 then ((tangramref11_From.f x151000 x151001 x47).bind fun t163 => (if 0 ≤ t163 then (if t163 < (x7.length : Int) then (if 0 ≤ x47 then (if x47 < (x5.length : Int) then (if (rd x5 x47) < 0 then (some false) else (if (rd x5 x47) ≥ (x5.length : Int) then (some false) else (if 0 ≤ (rd x5 x47) then (if (rd x5 x47) < (x8.length : Int) then (if rdOf false x8 (rd x5 x47) = true then (some false) else (tangramlaw11_RotNext.l0 k x5 (x7.set (t163 : Int).toNat (wrap64 ((rd x7 t163) + 1))) (x8.set ((rd x5 x47) : Int).toNat true) x46 (wrap64 (x47 + 1)) x151000 x151001)) else (none)) else (none)))) else (none)) else (none)) else (none)) else (none))) else (tangramlaw11_RotNext.l1 k x5 x7 (x5.length : Int) 0 x151000 x151001)
def tangramlaw11_RotNext.l1 : Nat → List Int → List Int → Int → Int → Int → List (S59) → Option (Bool)
  | 0, _, _, _, _, _, _ => none
  | k + 1, x5, x7, x89, x90, x151000, x151001 => if x90 < x89 then ((tangramref11_From.f x151000 x151001 x90).bind fun t172 => (if 0 ≤ x90 then (if x90 < (x5.length : Int) then (tangramlaw11_RotNext.l2 k x5 x7 x90 t172 0 (rd x5 x90) x89 x90 x151000 x151001) else (none)) else (none))) else (some true)
def tangramlaw11_RotNext.l2 : Nat → List Int → List Int → Int → Int → Int → Int → Int → Int → Int → List (S59) → Option (Bool)
  | 0, _, _, _, _, _, _, _, _, _, _ => none
  | k + 1, x5, x7, x10, x11, x12, x13, x89, x90, x151000, x151001 => (tangramref11_From.f x151000 x151001 x13).bind fun t174 => (if t174 = x11 then (if 0 ≤ x11 then (if x11 < (x7.length : Int) then (tangramlaw11_RotNext.j4 k x5 x7 x10 x11 (wrap64 (x12 + 1)) x13 x89 x90 (decide ((wrap64 (x12 + 1)) > (rd x7 x11))) x151000 x151001) else (none)) else (none)) else (tangramlaw11_RotNext.j4 k x5 x7 x10 x11 (wrap64 (x12 + 1)) x13 x89 x90 true x151000 x151001))
def tangramlaw11_RotNext.j4 : Nat → List Int → List Int → Int → Int → Int → Int → Int → Int → Bool → Int → List (S59) → Option (Bool)
  | 0, _, _, _, _, _, _, _, _, _, _, _ => none
  | k + 1, x5, x7, x10, x11, x12, x13, x89, x90, x118, x151000, x151001 => if x118 = true then (some false) else (if x13 = x10 then (if 0 ≤ x11 then (if x11 < (x7.length : Int) then (if x12 = (rd x7 x11) then (tangramlaw11_RotNext.l1 k x5 x7 x89 (wrap64 (x90 + 1)) x151000 x151001) else (some false)) else (none)) else (none)) else (if 0 ≤ x13 then (if x13 < (x5.length : Int) then (tangramlaw11_RotNext.l2 k x5 x7 x10 x11 x12 (rd x5 x13) x89 x90 x151000 x151001) else (none)) else (none)))
end
def tangramlaw11_RotNext.f (k : Nat) (a0_0 : Int) (l0_1 : List (S59)) (l1 : List (List Int)) : Option (Bool) := (tangramlaw11_fixed.f).bind fun t151 => (if t151 = true then ((rot_Next.f k a0_0 l0_1 l1).bind fun bt152 => (if bt152.2 = 0 then ((tangramref03_Valid.f k a0_0 l0_1).bind fun t156 => (if t156 = true then (tangramlaw11_RotNext.j0 k bt152.1 ((bt152.1.length : Int) != (wrap64 (2 * (l0_1.length : Int)))) a0_0 l0_1) else (tangramlaw11_RotNext.j0 k bt152.1 true a0_0 l0_1))) else (some ((bt152.1.length : Int) == 0)))) else (some false))
theorem tangramlaw11_RotNext.mono_l : ∀ k, (∀ y0 y1 y2 y3, LeO (tangramlaw11_RotNext.j0 k y0 y1 y2 y3) (tangramlaw11_RotNext.j0 (k + 1) y0 y1 y2 y3)) ∧ (∀ y0 y1 y2 y3 y4 y5 y6, LeO (tangramlaw11_RotNext.l0 k y0 y1 y2 y3 y4 y5 y6) (tangramlaw11_RotNext.l0 (k + 1) y0 y1 y2 y3 y4 y5 y6)) ∧ (∀ y0 y1 y2 y3 y4 y5, LeO (tangramlaw11_RotNext.l1 k y0 y1 y2 y3 y4 y5) (tangramlaw11_RotNext.l1 (k + 1) y0 y1 y2 y3 y4 y5)) ∧ (∀ y0 y1 y2 y3 y4 y5 y6 y7 y8 y9, LeO (tangramlaw11_RotNext.l2 k y0 y1 y2 y3 y4 y5 y6 y7 y8 y9) (tangramlaw11_RotNext.l2 (k + 1) y0 y1 y2 y3 y4 y5 y6 y7 y8 y9)) ∧ (∀ y0 y1 y2 y3 y4 y5 y6 y7 y8 y9 y10, LeO (tangramlaw11_RotNext.j4 k y0 y1 y2 y3 y4 y5 y6 y7 y8 y9 y10) (tangramlaw11_RotNext.j4 (k + 1) y0 y1 y2 y3 y4 y5 y6 y7 y8 y9 y10))
  | 0 => ⟨fun _ _ _ _ r h => by simp [tangramlaw11_RotNext.j0] at h, fun _ _ _ _ _ _ _ r h => by simp [tangramlaw11_RotNext.l0] at h, fun _ _ _ _ _ _ r h => by simp [tangramlaw11_RotNext.l1] at h, fun _ _ _ _ _ _ _ _ _ _ r h => by simp [tangramlaw11_RotNext.l2] at h, fun _ _ _ _ _ _ _ _ _ _ _ r h => by simp [tangramlaw11_RotNext.j4] at h⟩
  | k + 1 => by
    obtain ⟨ih0, ih1, ih2, ih3, ih4⟩ := tangramlaw11_RotNext.mono_l k
    refine ⟨?_, ?_, ?_, ?_, ?_⟩
    · intro y0 y1 y2 y3
      unfold tangramlaw11_RotNext.j0
      repeat' first
      | (with_reducible exact ih0 _ _ _ _)
      | (with_reducible exact ih1 _ _ _ _ _ _ _)
      | (with_reducible exact ih2 _ _ _ _ _ _)
      | (with_reducible exact ih3 _ _ _ _ _ _ _ _ _ _)
      | (with_reducible exact ih4 _ _ _ _ _ _ _ _ _ _ _)
      | (with_reducible exact rot_Next.mono _ _ _ _)
      | (with_reducible exact tangramref03_Valid.mono _ _ _)
      | (with_reducible exact LeO.refl _)
      | (with_reducible exact LeO.none _)
      | (with_reducible refine LeO.ite ?_ ?_)
      | (with_reducible refine LeO.bind ?_ (fun _ => ?_))
      | exact ih0 _ _ _ _
      | exact ih1 _ _ _ _ _ _ _
      | exact ih2 _ _ _ _ _ _
      | exact ih3 _ _ _ _ _ _ _ _ _ _
      | exact ih4 _ _ _ _ _ _ _ _ _ _ _
      | exact rot_Next.mono _ _ _ _
      | exact tangramref03_Valid.mono _ _ _
      | exact LeO.none _
      | refine LeO.ite ?_ ?_
      | refine LeO.bind ?_ (fun _ => ?_)
    · intro y0 y1 y2 y3 y4 y5 y6
      unfold tangramlaw11_RotNext.l0
      repeat' first
      | (with_reducible exact ih0 _ _ _ _)
      | (with_reducible exact ih1 _ _ _ _ _ _ _)
      | (with_reducible exact ih2 _ _ _ _ _ _)
      | (with_reducible exact ih3 _ _ _ _ _ _ _ _ _ _)
      | (with_reducible exact ih4 _ _ _ _ _ _ _ _ _ _ _)
      | (with_reducible exact rot_Next.mono _ _ _ _)
      | (with_reducible exact tangramref03_Valid.mono _ _ _)
      | (with_reducible exact LeO.refl _)
      | (with_reducible exact LeO.none _)
      | (with_reducible refine LeO.ite ?_ ?_)
      | (with_reducible refine LeO.bind ?_ (fun _ => ?_))
      | exact ih0 _ _ _ _
      | exact ih1 _ _ _ _ _ _ _
      | exact ih2 _ _ _ _ _ _
      | exact ih3 _ _ _ _ _ _ _ _ _ _
      | exact ih4 _ _ _ _ _ _ _ _ _ _ _
      | exact rot_Next.mono _ _ _ _
      | exact tangramref03_Valid.mono _ _ _
      | exact LeO.none _
      | refine LeO.ite ?_ ?_
      | refine LeO.bind ?_ (fun _ => ?_)
    · intro y0 y1 y2 y3 y4 y5
      unfold tangramlaw11_RotNext.l1
      repeat' first
      | (with_reducible exact ih0 _ _ _ _)
      | (with_reducible exact ih1 _ _ _ _ _ _ _)
      | (with_reducible exact ih2 _ _ _ _ _ _)
      | (with_reducible exact ih3 _ _ _ _ _ _ _ _ _ _)
      | (with_reducible exact ih4 _ _ _ _ _ _ _ _ _ _ _)
      | (with_reducible exact rot_Next.mono _ _ _ _)
      | (with_reducible exact tangramref03_Valid.mono _ _ _)
      | (with_reducible exact LeO.refl _)
      | (with_reducible exact LeO.none _)
      | (with_reducible refine LeO.ite ?_ ?_)
      | (with_reducible refine LeO.bind ?_ (fun _ => ?_))
      | exact ih0 _ _ _ _
      | exact ih1 _ _ _ _ _ _ _
      | exact ih2 _ _ _ _ _ _
      | exact ih3 _ _ _ _ _ _ _ _ _ _
      | exact ih4 _ _ _ _ _ _ _ _ _ _ _
      | exact rot_Next.mono _ _ _ _
      | exact tangramref03_Valid.mono _ _ _
      | exact LeO.none _
      | refine LeO.ite ?_ ?_
      | refine LeO.bind ?_ (fun _ => ?_)
    · intro y0 y1 y2 y3 y4 y5 y6 y7 y8 y9
      unfold tangramlaw11_RotNext.l2
      repeat' first
      | (with_reducible exact ih0 _ _ _ _)
      | (with_reducible exact ih1 _ _ _ _ _ _ _)
      | (with_reducible exact ih2 _ _ _ _ _ _)
      | (with_reducible exact ih3 _ _ _ _ _ _ _ _ _ _)
      | (with_reducible exact ih4 _ _ _ _ _ _ _ _ _ _ _)
      | (with_reducible exact rot_Next.mono _ _ _ _)
      | (with_reducible exact tangramref03_Valid.mono _ _ _)
      | (with_reducible exact LeO.refl _)
      | (with_reducible exact LeO.none _)
      | (with_reducible refine LeO.ite ?_ ?_)
      | (with_reducible refine LeO.bind ?_ (fun _ => ?_))
      | exact ih0 _ _ _ _
      | exact ih1 _ _ _ _ _ _ _
      | exact ih2 _ _ _ _ _ _
      | exact ih3 _ _ _ _ _ _ _ _ _ _
      | exact ih4 _ _ _ _ _ _ _ _ _ _ _
      | exact rot_Next.mono _ _ _ _
      | exact tangramref03_Valid.mono _ _ _
      | exact LeO.none _
      | refine LeO.ite ?_ ?_
      | refine LeO.bind ?_ (fun _ => ?_)
    · intro y0 y1 y2 y3 y4 y5 y6 y7 y8 y9 y10
      unfold tangramlaw11_RotNext.j4
      repeat' first
      | (with_reducible exact ih0 _ _ _ _)
      | (with_reducible exact ih1 _ _ _ _ _ _ _)
      | (with_reducible exact ih2 _ _ _ _ _ _)
      | (with_reducible exact ih3 _ _ _ _ _ _ _ _ _ _)
      | (with_reducible exact ih4 _ _ _ _ _ _ _ _ _ _ _)
      | (with_reducible exact rot_Next.mono _ _ _ _)
      | (with_reducible exact tangramref03_Valid.mono _ _ _)
      | (with_reducible exact LeO.refl _)
      | (with_reducible exact LeO.none _)
      | (with_reducible refine LeO.ite ?_ ?_)
      | (with_reducible refine LeO.bind ?_ (fun _ => ?_))
      | exact ih0 _ _ _ _
      | exact ih1 _ _ _ _ _ _ _
      | exact ih2 _ _ _ _ _ _
      | exact ih3 _ _ _ _ _ _ _ _ _ _
      | exact ih4 _ _ _ _ _ _ _ _ _ _ _
      | exact rot_Next.mono _ _ _ _
      | exact tangramref03_Valid.mono _ _ _
      | exact LeO.none _
      | refine LeO.ite ?_ ?_
      | refine LeO.bind ?_ (fun _ => ?_)
theorem tangramlaw11_RotNext.mono : ∀ a0 a1 a2 k, LeO (tangramlaw11_RotNext.f k a0 a1 a2) (tangramlaw11_RotNext.f (k + 1) a0 a1 a2) := by
  intro a0 a1 a2 k
  obtain ⟨ih0, ih1, ih2, ih3, ih4⟩ := tangramlaw11_RotNext.mono_l k
  unfold tangramlaw11_RotNext.f
  repeat' first
      | (with_reducible exact ih0 _ _ _ _)
      | (with_reducible exact ih1 _ _ _ _ _ _ _)
      | (with_reducible exact ih2 _ _ _ _ _ _)
      | (with_reducible exact ih3 _ _ _ _ _ _ _ _ _ _)
      | (with_reducible exact ih4 _ _ _ _ _ _ _ _ _ _ _)
      | (with_reducible exact rot_Next.mono _ _ _ _)
      | (with_reducible exact tangramref03_Valid.mono _ _ _)
      | (with_reducible exact LeO.refl _)
      | (with_reducible exact LeO.none _)
      | (with_reducible refine LeO.ite ?_ ?_)
      | (with_reducible refine LeO.bind ?_ (fun _ => ?_))
      | exact ih0 _ _ _ _
      | exact ih1 _ _ _ _ _ _ _
      | exact ih2 _ _ _ _ _ _
      | exact ih3 _ _ _ _ _ _ _ _ _ _
      | exact ih4 _ _ _ _ _ _ _ _ _ _ _
      | exact rot_Next.mono _ _ _ _
      | exact tangramref03_Valid.mono _ _ _
      | exact LeO.none _
      | refine LeO.ite ?_ ?_
      | refine LeO.bind ?_ (fun _ => ?_)
set_option maxHeartbeats 8000000 in
set_option maxRecDepth 100000 in
theorem tangramlaw11_RotNext.calls (k : Nat) (a0_0 : Int) (A0_1 : Option Addr) (c0_1 : Nat) (l0_1 : List (S59)) (A1 : Option Addr) (c1 : Nat) (l1 : List (List Int)) (r : Bool) (w : World) (hr0_1 : Kd.C k59 w A0_1 l0_1.length l0_1) (hc0_1 : l0_1.length ≤ c0_1) (hr1 : Kd.C (Kd.slice 3 (Kd.int .i64)) w A1 l1.length l1) (hc1 : l1.length ≤ c1) (h : tangramlaw11_RotNext.f k a0_0 l0_1 l1 = some r) :
    Calls Try.prog 3 #[.agg #[.int .i64 a0_0, .slice A0_1 l0_1.length c0_1], .slice A1 l1.length c1] w fun e w' => e = .returned (.bool r) ∧ Below w.heap.size w w' := by
  have hu24 := Try.underlying24
  have HR0_1 := Aside0.mk hr0_1
  have HC0_1 := Aside0.mk hc0_1
  clear hr0_1 hc0_1
  have HR1 := Aside0.mk hr1
  have HC1 := Aside0.mk hc1
  clear hr1 hc1
  have HB := Aside0.mk (Below.refl w.heap.size w)
  have H : ((tangramlaw11_fixed.f).bind fun t151 => (if t151 = true then ((rot_Next.f k a0_0 l0_1 l1).bind fun bt152 => (if bt152.2 = 0 then ((tangramref03_Valid.f k a0_0 l0_1).bind fun t156 => (if t156 = true then (tangramlaw11_RotNext.j0 k bt152.1 ((bt152.1.length : Int) != (wrap64 (2 * (l0_1.length : Int)))) a0_0 l0_1) else (tangramlaw11_RotNext.j0 k bt152.1 true a0_0 l0_1))) else (some ((bt152.1.length : Int) == 0)))) else (some false))) = some r := h
  clear h
  replace H := Option.bind_eq_some_iff.mp H
  obtain ⟨t151, A30, H⟩ := H
  replace H : (if t151 = true then ((rot_Next.f k a0_0 l0_1 l1).bind fun bt152 => (if bt152.2 = 0 then ((tangramref03_Valid.f k a0_0 l0_1).bind fun t156 => (if t156 = true then (tangramlaw11_RotNext.j0 k bt152.1 ((bt152.1.length : Int) != (wrap64 (2 * (l0_1.length : Int)))) a0_0 l0_1) else (tangramlaw11_RotNext.j0 k bt152.1 true a0_0 l0_1))) else (some ((bt152.1.length : Int) == 0)))) else (some false)) = some r := H
  have A3 := Aside0.mk A30
  clear A30
  by_cases c4 : t151 = true
  · subst c4
    have H1 : ((rot_Next.f k a0_0 l0_1 l1).bind fun bt152 => (if bt152.2 = 0 then ((tangramref03_Valid.f k a0_0 l0_1).bind fun t156 => (if t156 = true then (tangramlaw11_RotNext.j0 k bt152.1 ((bt152.1.length : Int) != (wrap64 (2 * (l0_1.length : Int)))) a0_0 l0_1) else (tangramlaw11_RotNext.j0 k bt152.1 true a0_0 l0_1))) else (some ((bt152.1.length : Int) == 0)))) = some r := by rw [if_pos rfl] at H; exact H
    clear H
    have H := H1
    clear H1
    replace H := Option.bind_eq_some_iff.mp H
    obtain ⟨⟨t152, t155⟩, A50, H⟩ := H
    replace H : (if t155 = 0 then ((tangramref03_Valid.f k a0_0 l0_1).bind fun t156 => (if t156 = true then (tangramlaw11_RotNext.j0 k t152 ((t152.length : Int) != (wrap64 (2 * (l0_1.length : Int)))) a0_0 l0_1) else (tangramlaw11_RotNext.j0 k t152 true a0_0 l0_1))) else (some ((t152.length : Int) == 0))) = some r := H
    have A5 := Aside0.mk A50
    clear A50
    by_cases c6 : t155 = 0
    · rw [if_pos c6] at H
      have c6b0 : (t155 == 0) = true := beq_iff_eq.mpr c6
      have c6b1 : (t155 != 0) = false := bne_eq_false_iff_eq.mpr c6
      clear c6
      have HC7 := Aside0.mk H
      clear H
      go_enter Try.func3, Try.ntmps3
      go_upto_region 6 with (first | ((with_reducible refine gate_dst (N := 2) rfl ?_); (try (refine gate_guard (by rfl) ?_; dsimp only)); refine box_event ?hg (N := 2) ?hd (cs := #[.int .i64 a0_0, .slice A0_1 l0_1.length c0_1]) (t := 24) ?hr ?_; (case hd => rfl); (case hg => rfl); (case hr => first | (go_simp; done) | (go_simp; rfl)); intro gb150 hg w8 hbox hb; have n0_ := Aside0.mk (below_step (by repeat (first | (with_reducible first | exact HB.out | apply below_alloc | apply pw_below_drewN | apply below_drew1) | exact HB.out)) hb); have n1_ := Aside0.mk (hbox); have n2_ := Aside0.mk ((by rw [hg]; exact (below_size (by repeat (first | (with_reducible first | exact HB.out | apply below_alloc | apply pw_below_drewN | apply below_drew1) | exact HB.out))) : w.heap.size ≤ gb150)); have n3_ := Aside0.mk ((by rw [hg]; exact (below_size (by repeat (first | (with_reducible first | exact HB.out | apply below_alloc | apply pw_below_drewN | apply below_drew1) | exact HB.out))) : w.heap.size ≤ gb150)); clear HB; have HB := n0_; have BK150 := n1_; have GW150 := n2_; have GE150 := n3_; clear n0_ n1_ n2_ n3_; clear hb hbox hg) | ((with_reducible refine gate_callee (f := 11) rfl ?_); refine goesL_ (some 14) rfl rfl Try.func11 (by kernel_rfl) rfl #[] rfl (by (try simp only [List.map_toArray, List.map_cons, List.map_nil]); first | done | rfl | (simp only [List.length_drop, List.length_take]; rfl)) ?_; (with_reducible refine (tangramlaw11_fixed.calls  true _ A3.out).mono ?_); rintro e w9 ⟨rfl, hb⟩; refine ⟨_, rfl, ?_⟩; have n0_ := Aside0.mk (blk_below (g := gb150) (o := .cells #[.int .i64 a0_0, .slice A0_1 l0_1.length c0_1] 24 (0, 0)) (by (with_reducible repeat (first | refine blk_drewN ?_ _ | refine blk_drew ?_ | refine blk_alloc ?_ _)); exact BK150.out) hb); have n1_ := Aside0.mk (below_step (by repeat (first | (with_reducible first | exact HB.out | apply below_alloc | apply pw_below_drewN | apply below_drew1 | refine below_set ?_ GE150.out) | exact HB.out)) hb); clear BK150; clear HB; have BK150 := n0_; have HB := n1_; clear n0_ n1_; (try clear hb); (try clear hb2); (try clear hk); (try clear hi); have hcz10_0 : w9.cell? ⟨gb150, 0, none⟩ = some (.int .i64 a0_0) := (blk_cell BK150.out 0).trans rfl; have hcz10_1 : w9.cell? ⟨gb150, 1, none⟩ = some (.slice A0_1 l0_1.length c0_1) := (blk_cell BK150.out 1).trans rfl; have hfz10_0 := blk_frozen BK150.out 0; have hfz10_1 := blk_frozen BK150.out 1) | ((with_reducible refine gate_callee (f := 12) rfl ?_); refine goesL_ (some 19) rfl rfl Try.func12 (by kernel_rfl) rfl #[.agg #[.int .i64 a0_0, .slice A0_1 l0_1.length c0_1], .slice A1 l1.length c1] rfl (by (try simp only [List.map_toArray, List.map_cons, List.map_nil]); first | done | rfl | (simp only [List.length_drop, List.length_take]; rfl)) ?_; (with_reducible refine (rot_Next.calls k a0_0 _ _ l0_1 _ _ l1 t152 t155 _ ?side1 ?side2 ?side3 ?side4 A5.out).mono ?_); (case side1 => repeat (first | exact (Kd.C_below HR0_1.out HB.out) | (with_reducible refine Kd.C_alloc ?_ _) | (with_reducible refine Kd.C_drewN ?_ _) | (with_reducible refine Kd.C_drew ?_))); (case side2 => exact HC0_1.out); (case side3 => repeat (first | exact (Kd.C_below HR1.out HB.out) | (with_reducible refine Kd.C_alloc ?_ _) | (with_reducible refine Kd.C_drewN ?_ _) | (with_reducible refine Kd.C_drew ?_))); (case side4 => exact HC1.out); rintro e w11 ⟨v153, rfl, ho0, hb⟩; refine ⟨_, rfl, ?_⟩; have n0_ := Aside0.mk (Kd.R_lower ho0 (below_size (by repeat (first | (with_reducible first | exact HB.out | apply below_alloc | apply pw_below_drewN | apply below_drew1 | refine below_set ?_ GE150.out) | exact HB.out)))); have n1_ := Aside0.mk (blk_below (g := gb150) (o := .cells #[.int .i64 a0_0, .slice A0_1 l0_1.length c0_1] 24 (0, 0)) (by (with_reducible repeat (first | refine blk_drewN ?_ _ | refine blk_drew ?_ | refine blk_alloc ?_ _)); exact BK150.out) hb); have n2_ := Aside0.mk (below_step (by repeat (first | (with_reducible first | exact HB.out | apply below_alloc | apply pw_below_drewN | apply below_drew1 | refine below_set ?_ GE150.out) | exact HB.out)) hb); clear BK150; clear HB; have HO154 := n0_; have BK150 := n1_; have HB := n2_; clear n0_ n1_ n2_; (try clear hb); (try clear hb2); (try clear hk); (try clear hi); (try clear ho0)))
      (try simp only [Act.put, List.setIfInBounds_toArray, List.set_cons_zero, List.set_cons_succ])
      go_cut [38] (fun v38 wc => ∃ (kq : Nat) (x38_6 : Bool), v38 = .bool x38_6 ∧ Aside0 (tangramlaw11_RotNext.j0 kq t152 x38_6 a0_0 l0_1 = some r) ∧ Aside0 (kq ≤ k) ∧ Aside0 (Kd.R (Kd.int .i64) 3 wc w.heap.size (fun _ => True) v153 t152) ∧ Aside0 (wc.heap[gb150]? = some (.cells #[.int .i64 a0_0, (.slice A0_1 l0_1.length c0_1)] 24 (0, 0))) ∧ Aside0 (Below w.heap.size w wc))
      case first =>
        have H := HC7.out
        clear HC7
        replace H := Option.bind_eq_some_iff.mp H
        obtain ⟨t156, A120, H⟩ := H
        replace H : (if t156 = true then (tangramlaw11_RotNext.j0 k t152 ((t152.length : Int) != (wrap64 (2 * (l0_1.length : Int)))) a0_0 l0_1) else (tangramlaw11_RotNext.j0 k t152 true a0_0 l0_1)) = some r := H
        have A12 := Aside0.mk A120
        clear A120
        by_cases c13 : t156 = true
        · subst c13
          have H1 : (tangramlaw11_RotNext.j0 k t152 ((t152.length : Int) != (wrap64 (2 * (l0_1.length : Int)))) a0_0 l0_1) = some r := by rw [if_pos rfl] at H; exact H
          clear H
          have H := H1
          clear H1
          have H' := Aside0.mk H
          clear H
          have hcz14_0 : w11.cell? ⟨gb150, 0, none⟩ = some (.int .i64 a0_0) := (blk_cell BK150.out 0).trans rfl
          have hcz14_1 : w11.cell? ⟨gb150, 1, none⟩ = some (.slice A0_1 l0_1.length c0_1) := (blk_cell BK150.out 1).trans rfl
          have hfz14_0 := blk_frozen BK150.out 0
          have hfz14_1 := blk_frozen BK150.out 1
          go_wp2_with (first | ((with_reducible refine gate_callee (f := 13) rfl ?_); refine goesL_ (some 28) rfl rfl Try.func13 (by kernel_rfl) rfl #[.agg #[.int .i64 a0_0, .slice A0_1 l0_1.length c0_1]] rfl (by (try simp only [List.map_toArray, List.map_cons, List.map_nil]); first | done | rfl | (simp only [List.length_drop, List.length_take]; rfl)) ?_; (with_reducible refine (tangramref03_Valid.calls k a0_0 _ _ l0_1 true _ ?side1 ?side2 A12.out).mono ?_); (case side1 => repeat (first | exact (Kd.C_below HR0_1.out HB.out) | (with_reducible refine Kd.C_alloc ?_ _) | (with_reducible refine Kd.C_drewN ?_ _) | (with_reducible refine Kd.C_drew ?_))); (case side2 => exact HC0_1.out); rintro e w15 ⟨rfl, hb⟩; refine ⟨_, rfl, ?_⟩; have n0_ := Aside0.mk (Kd.R_below (by (with_reducible repeat (first | apply Kd.R_alloc | apply Kd.R_drewN | apply Kd.R_drew)); exact HO154.out) hb); have n1_ := Aside0.mk (blk_below (g := gb150) (o := .cells #[.int .i64 a0_0, .slice A0_1 l0_1.length c0_1] 24 (0, 0)) (by (with_reducible repeat (first | refine blk_drewN ?_ _ | refine blk_drew ?_ | refine blk_alloc ?_ _)); exact BK150.out) hb); have n2_ := Aside0.mk (below_step (by repeat (first | (with_reducible first | exact HB.out | apply below_alloc | apply pw_below_drewN | apply below_drew1 | refine below_set ?_ GE150.out) | exact HB.out)) hb); clear HO154; clear BK150; clear HB; have HO154 := n0_; have BK150 := n1_; have HB := n2_; clear n0_ n1_ n2_; (try clear hb); (try clear hb2); (try clear hk); (try clear hi); obtain ⟨Ao16, co16, eo16⟩ := Kd.R_slice HO154.out; subst eo16; have hcz17_0 : w15.cell? ⟨gb150, 0, none⟩ = some (.int .i64 a0_0) := (blk_cell BK150.out 0).trans rfl; have hcz17_1 : w15.cell? ⟨gb150, 1, none⟩ = some (.slice A0_1 l0_1.length c0_1) := (blk_cell BK150.out 1).trans rfl; have hfz17_0 := blk_frozen BK150.out 0; have hfz17_1 := blk_frozen BK150.out 1))
          go_meet
          case rel => exact ⟨_, (((t152.length : Int) != (wrap64 (2 * (l0_1.length : Int))))), (by first | rfl | (simp; done) | (simp [*]; done)), H', ⟨by first | omega | exact Nat.le_refl _⟩, ⟨by (with_reducible repeat (first | apply Kd.R_alloc | apply Kd.R_drewN | apply Kd.R_drew)); exact HO154.out⟩, ⟨by (with_reducible repeat (first | refine blk_drewN ?_ _ | refine blk_drew ?_ | refine blk_alloc ?_ _)); exact BK150.out⟩, ⟨by repeat (first | (with_reducible first | exact HB.out | apply below_alloc | apply pw_below_drewN | apply below_drew1 | refine below_set ?_ GE150.out) | exact HB.out)⟩⟩
        · replace c13 := Bool.eq_false_iff.mpr c13
          subst c13
          have H1 : (tangramlaw11_RotNext.j0 k t152 true a0_0 l0_1) = some r := by rw [if_neg (show ¬ (false = true) by decide)] at H; exact H
          clear H
          have H := H1
          clear H1
          have H' := Aside0.mk H
          clear H
          have hcz18_0 : w11.cell? ⟨gb150, 0, none⟩ = some (.int .i64 a0_0) := (blk_cell BK150.out 0).trans rfl
          have hcz18_1 : w11.cell? ⟨gb150, 1, none⟩ = some (.slice A0_1 l0_1.length c0_1) := (blk_cell BK150.out 1).trans rfl
          have hfz18_0 := blk_frozen BK150.out 0
          have hfz18_1 := blk_frozen BK150.out 1
          go_wp2_with (first | ((with_reducible refine gate_callee (f := 13) rfl ?_); refine goesL_ (some 28) rfl rfl Try.func13 (by kernel_rfl) rfl #[.agg #[.int .i64 a0_0, .slice A0_1 l0_1.length c0_1]] rfl (by (try simp only [List.map_toArray, List.map_cons, List.map_nil]); first | done | rfl | (simp only [List.length_drop, List.length_take]; rfl)) ?_; (with_reducible refine (tangramref03_Valid.calls k a0_0 _ _ l0_1 false _ ?side1 ?side2 A12.out).mono ?_); (case side1 => repeat (first | exact (Kd.C_below HR0_1.out HB.out) | (with_reducible refine Kd.C_alloc ?_ _) | (with_reducible refine Kd.C_drewN ?_ _) | (with_reducible refine Kd.C_drew ?_))); (case side2 => exact HC0_1.out); rintro e w19 ⟨rfl, hb⟩; refine ⟨_, rfl, ?_⟩; have n0_ := Aside0.mk (Kd.R_below (by (with_reducible repeat (first | apply Kd.R_alloc | apply Kd.R_drewN | apply Kd.R_drew)); exact HO154.out) hb); have n1_ := Aside0.mk (blk_below (g := gb150) (o := .cells #[.int .i64 a0_0, .slice A0_1 l0_1.length c0_1] 24 (0, 0)) (by (with_reducible repeat (first | refine blk_drewN ?_ _ | refine blk_drew ?_ | refine blk_alloc ?_ _)); exact BK150.out) hb); have n2_ := Aside0.mk (below_step (by repeat (first | (with_reducible first | exact HB.out | apply below_alloc | apply pw_below_drewN | apply below_drew1 | refine below_set ?_ GE150.out) | exact HB.out)) hb); clear HO154; clear BK150; clear HB; have HO154 := n0_; have BK150 := n1_; have HB := n2_; clear n0_ n1_ n2_; (try clear hb); (try clear hb2); (try clear hk); (try clear hi)))
          go_meet
          case rel => exact ⟨_, (true), (by first | rfl | (simp; done) | (simp [*]; done)), H', ⟨by first | omega | exact Nat.le_refl _⟩, ⟨by (with_reducible repeat (first | apply Kd.R_alloc | apply Kd.R_drewN | apply Kd.R_drew)); exact HO154.out⟩, ⟨by (with_reducible repeat (first | refine blk_drewN ?_ _ | refine blk_drew ?_ | refine blk_alloc ?_ _)); exact BK150.out⟩, ⟨by repeat (first | (with_reducible first | exact HB.out | apply below_alloc | apply pw_below_drewN | apply below_drew1 | refine below_set ?_ GE150.out) | exact HB.out)⟩⟩
      case rest =>
        clear HC7
        try clear c1
        try clear p2
        try clear c3
        try clear c4
        try clear c6
        try clear c6b0
        try clear c6b1
        try clear p6
        try clear c11
        try clear c12
        try clear c13
        try clear hcz10_0
        try clear hcz10_1
        try clear hcz14_0
        try clear hcz14_1
        try clear hcz17_0
        try clear hcz17_1
        try clear hcz18_0
        try clear hcz18_1
        try clear hfz10_0
        try clear hfz10_1
        try clear hfz14_0
        try clear hfz14_1
        try clear hfz17_0
        try clear hfz17_1
        try clear hfz18_0
        try clear hfz18_1
        obtain ⟨kq, x38_6, rfl, HA, HJ6, HO_5, BK150, HB⟩ := hcut
        cases kq with
        | zero => exact absurd HA.out (by simp [tangramlaw11_RotNext.j0])
        | succ kj6 =>
          have H := HA.out
          clear HA
          simp only [tangramlaw11_RotNext.j0] at H
          by_cases c20 : x38_6 = true
          · subst c20
            have H1 : (some false) = some r := by rw [if_pos rfl] at H; exact H
            clear H
            have H := H1
            clear H1
            obtain rfl := Option.some.inj H
            go_wp2
            go_ret
            exact ⟨by first | rfl | (simp [errW_none, errW_some] <;> rfl) | (simp [*, errW_none, errW_some] <;> rfl), by repeat (first | (with_reducible first | exact HB.out | apply below_alloc | apply pw_below_drewN | apply below_drew1 | refine below_set ?_ GE150.out) | exact HB.out)⟩
          · replace c20 := Bool.eq_false_iff.mpr c20
            subst c20
            have H1 : (if 0 ≤ a0_0 then (if (a0_0 : Int).toNat ≤ 35184372088832 then (if 0 ≤ (t152.length : Int) then (if ((t152.length : Int) : Int).toNat ≤ 281474976710656 then (tangramlaw11_RotNext.l0 kj6 t152 (List.replicate (a0_0 : Int).toNat 0) (List.replicate ((t152.length : Int) : Int).toNat false) (t152.length : Int) 0 a0_0 l0_1) else (none)) else (none)) else (none)) else (none)) = some r := by rw [if_neg (show ¬ (false = true) by decide)] at H; exact H
            clear H
            have H := H1
            clear H1
            by_cases c21 : 0 ≤ a0_0
            · rw [if_pos c21] at H
              have c21b0 := eq_true c21
              have c21b1 : decide (0 ≤ a0_0) = true := decide_eq_true c21
              clear c21
              by_cases c22 : (a0_0 : Int).toNat ≤ 35184372088832
              · rw [if_pos c22] at H
                have c22b0 := eq_true c22
                have c22b1 : decide ((a0_0 : Int).toNat ≤ 35184372088832) = true := decide_eq_true c22
                clear c22
                obtain ⟨y157, hy157⟩ : ∃ y_ : List Int, y_ = (List.replicate (a0_0 : Int).toNat 0) := ⟨_, rfl⟩
                replace H : (if 0 ≤ (t152.length : Int) then (if ((t152.length : Int) : Int).toNat ≤ 281474976710656 then (tangramlaw11_RotNext.l0 kj6 t152 y157 (List.replicate ((t152.length : Int) : Int).toNat false) (t152.length : Int) 0 a0_0 l0_1) else (none)) else (none)) = some r := by first | (rw [hy157]; with_reducible exact H) | (have H2_ := (Option.bind_some _ _).symm.trans H; rw [hy157]; with_reducible exact H2_) | (have H2_ := (Option.bind_some _ _).symm.trans H; with_reducible exact H2_) | with_reducible exact H | (rw [hy157]; exact H) | exact H
                have Ny157 := Aside0.mk hy157
                clear hy157
                by_cases c23 : 0 ≤ (t152.length : Int)
                · rw [if_pos c23] at H
                  have c23b0 := eq_true c23
                  have c23b1 : decide (0 ≤ (t152.length : Int)) = true := decide_eq_true c23
                  clear c23
                  by_cases c24 : ((t152.length : Int) : Int).toNat ≤ 281474976710656
                  · rw [if_pos c24] at H
                    have c24b0 := eq_true c24
                    have c24b1 : decide (((t152.length : Int) : Int).toNat ≤ 281474976710656) = true := decide_eq_true c24
                    clear c24
                    obtain ⟨y160, hy160⟩ : ∃ y_ : List Bool, y_ = (List.replicate ((t152.length : Int) : Int).toNat false) := ⟨_, rfl⟩
                    replace H : (tangramlaw11_RotNext.l0 kj6 t152 y157 y160 (t152.length : Int) 0 a0_0 l0_1) = some r := by first | (rw [hy160]; with_reducible exact H) | (have H2_ := (Option.bind_some _ _).symm.trans H; rw [hy160]; with_reducible exact H2_) | (have H2_ := (Option.bind_some _ _).symm.trans H; with_reducible exact H2_) | with_reducible exact H | (rw [hy160]; exact H) | exact H
                    have Ny160 := Aside0.mk hy160
                    clear hy160
                    have H' := Aside0.mk H
                    clear H
                    have hcz25_0 : wc.cell? ⟨gb150, 0, none⟩ = some (.int .i64 a0_0) := (blk_cell BK150.out 0).trans rfl
                    have hcz25_1 : wc.cell? ⟨gb150, 1, none⟩ = some (.slice A0_1 l0_1.length c0_1) := (blk_cell BK150.out 1).trans rfl
                    have hfz25_0 := blk_frozen BK150.out 0
                    have hfz25_1 := blk_frozen BK150.out 1
                    go_wp2_with (first | ((with_reducible refine gate_dst (N := 41) rfl ?_); (try (refine gate_guard (by rfl) ?_; dsimp only)); refine Kd.R_make (Kd.int .i64) _ 3 rfl (N := 41) rfl 28 _ _ rfl a0_0 rfl rfl Try.underlying28 (.int .i64 0) 8 info3 rfl (by decide) (by omega) 0 (ok := fun _ => True) (okp := fun _ => True) rfl (fun _ hk => hk) trivial (of_decide_eq_true (by first | (with_reducible assumption) | assumption)) (Nat.le_trans (Nat.mul_le_mul_right _ (of_decide_eq_true (by first | (with_reducible assumption) | assumption) : a0_0.toNat ≤ 35184372088832)) (by omega)) (Below.refl _ _) (Nat.le_refl _) ?_; intro v158 w26 ho27 hb hg_ hnew_; clear hg_ hnew_; (first | rw [← Ny157.out] at ho27 | (simp only [Int.reduceToNat] at ho27; rw [← Ny157.out] at ho27)); have n0_ := Aside0.mk (Kd.R_elder' (by (with_reducible repeat (first | apply Kd.R_alloc | apply Kd.R_drewN | apply Kd.R_drew)); exact HO_5.out) (Kd.R_base ho27) hb); have n1_ := Aside0.mk (Kd.R_lower (Kd.R_new' ho27 (Kd.R_lt (by (with_reducible repeat (first | apply Kd.R_alloc | apply Kd.R_drewN | apply Kd.R_drew)); exact HO_5.out))) (below_size (by repeat (first | (with_reducible first | exact HB.out | apply below_alloc | apply pw_below_drewN | apply below_drew1 | refine below_set ?_ GE150.out) | exact HB.out)))); have n2_ := Aside0.mk (blk_below (g := gb150) (o := .cells #[.int .i64 a0_0, .slice A0_1 l0_1.length c0_1] 24 (0, 0)) (by (with_reducible repeat (first | refine blk_drewN ?_ _ | refine blk_drew ?_ | refine blk_alloc ?_ _)); exact BK150.out) hb); have n3_ := Aside0.mk (below_step (by repeat (first | (with_reducible first | exact HB.out | apply below_alloc | apply pw_below_drewN | apply below_drew1 | refine below_set ?_ GE150.out) | exact HB.out)) hb); clear HO_5; clear BK150; clear HB; have HO_5 := n0_; have HO159 := n1_; have BK150 := n2_; have HB := n3_; clear n0_ n1_ n2_ n3_; clear hb ho27; obtain ⟨Ao28, co28, eo28⟩ := Kd.R_slice HO_5.out; subst eo28) | ((with_reducible refine gate_dst (N := 44) rfl ?_); (try (refine gate_guard (by rfl) ?_; dsimp only)); refine Kd.R_make Kd.bool _ 4 rfl (N := 44) rfl 33 _ _ rfl (t152.length : Int) rfl rfl Try.underlying33 (.bool false) 1 info4 rfl (by decide) (by omega) false (ok := fun _ => True) (okp := fun _ => True) rfl (fun _ hk => hk) trivial (of_decide_eq_true (by first | (with_reducible assumption) | assumption)) (Nat.le_trans (Nat.mul_le_mul_right _ (of_decide_eq_true (by first | (with_reducible assumption) | assumption) : (t152.length : Int).toNat ≤ 281474976710656)) (by omega)) (Below.refl _ _) (Nat.le_refl _) ?_; intro v161 w29 ho30 hb hg_ hnew_; clear hg_ hnew_; (first | rw [← Ny160.out] at ho30 | (simp only [Int.reduceToNat] at ho30; rw [← Ny160.out] at ho30)); have n0_ := Aside0.mk (Kd.R_below (by (with_reducible repeat (first | apply Kd.R_alloc | apply Kd.R_drewN | apply Kd.R_drew)); exact HO_5.out) hb); have n1_ := Aside0.mk (Kd.R_below (by (with_reducible repeat (first | apply Kd.R_alloc | apply Kd.R_drewN | apply Kd.R_drew)); exact HO159.out) hb); have n2_ := Aside0.mk (Kd.R_lower ho30 (below_size (by repeat (first | (with_reducible first | exact HB.out | apply below_alloc | apply pw_below_drewN | apply below_drew1 | refine below_set ?_ GE150.out) | exact HB.out)))); have n3_ := Aside0.mk (blk_below (g := gb150) (o := .cells #[.int .i64 a0_0, .slice A0_1 l0_1.length c0_1] 24 (0, 0)) (by (with_reducible repeat (first | refine blk_drewN ?_ _ | refine blk_drew ?_ | refine blk_alloc ?_ _)); exact BK150.out) hb); have n4_ := Aside0.mk (below_step (by repeat (first | (with_reducible first | exact HB.out | apply below_alloc | apply pw_below_drewN | apply below_drew1 | refine below_set ?_ GE150.out) | exact HB.out)) hb); clear HO_5; clear HO159; clear BK150; clear HB; have HO_5 := n0_; have HO159 := n1_; have HO162 := n2_; have BK150 := n3_; have HB := n4_; clear n0_ n1_ n2_ n3_ n4_; clear hb ho30))
                    go_loopg [47] kj6 (fun kq v47 w' => ∃ (x7_2 : List Int) (x8_2 : List Bool) (x47_2 : Int), v47 = .int .i64 x47_2 ∧ Aside0 (tangramlaw11_RotNext.l0 kq t152 x7_2 x8_2 (t152.length : Int) x47_2 a0_0 l0_1 = some r) ∧ Aside0 (kq ≤ kj6) ∧ Aside0 (Kd.R (Kd.int .i64) 3 w' w.heap.size (fun k_ => some k_ ≠ (v158 : Value).ownBlock) (.slice Ao28 t152.length co28) t152) ∧ Aside0 (Kd.R (Kd.int .i64) 3 w' w.heap.size (fun k_ => some k_ ≠ ((.slice Ao28 t152.length co28) : Value).ownBlock) v158 x7_2) ∧ Aside0 (Kd.R Kd.bool 4 w' w.heap.size (fun _ => True) v161 x8_2) ∧ Aside0 (w'.heap[gb150]? = some (.cells #[.int .i64 a0_0, (.slice A0_1 l0_1.length c0_1)] 24 (0, 0))) ∧ Aside0 (Below w.heap.size w w'))
                    case atStart => exact ⟨(y157), (y160), (0), (by first | rfl | (simp; done) | (simp [*]; done)), H', ⟨Nat.le_refl _⟩, ⟨by (with_reducible repeat (first | apply Kd.R_alloc | apply Kd.R_drewN | apply Kd.R_drew)); exact Kd.R_mono HO_5.out (fun _ hk => hk.2)⟩, ⟨by (with_reducible repeat (first | apply Kd.R_alloc | apply Kd.R_drewN | apply Kd.R_drew)); exact Kd.R_mono HO159.out (fun _ hk => hk.2)⟩, ⟨by (with_reducible repeat (first | apply Kd.R_alloc | apply Kd.R_drewN | apply Kd.R_drew)); exact HO162.out⟩, ⟨by (with_reducible repeat (first | refine blk_drewN ?_ _ | refine blk_drew ?_ | refine blk_alloc ?_ _)); exact BK150.out⟩, ⟨by repeat (first | (with_reducible first | exact HB.out | apply below_alloc | apply pw_below_drewN | apply below_drew1 | refine below_set ?_ GE150.out) | exact HB.out)⟩⟩
                    case round =>
                      clear H'
                      try clear c1
                      try clear c2
                      try clear p2
                      try clear c3
                      try clear c4
                      try clear c6
                      try clear c6b0
                      try clear c6b1
                      try clear p6
                      try clear c11
                      try clear c12
                      try clear c13
                      try clear c20
                      try clear c21
                      try clear c21b0
                      try clear c21b1
                      try clear c22
                      try clear c22b0
                      try clear c22b1
                      try clear c23
                      try clear c23b0
                      try clear c23b1
                      try clear c24
                      try clear c24b0
                      try clear c24b1
                      try clear hcz10_0
                      try clear hcz10_1
                      try clear hcz14_0
                      try clear hcz14_1
                      try clear hcz17_0
                      try clear hcz17_1
                      try clear hcz18_0
                      try clear hcz18_1
                      try clear hcz25_0
                      try clear hcz25_1
                      try clear hfz10_0
                      try clear hfz10_1
                      try clear hfz14_0
                      try clear hfz14_1
                      try clear hfz17_0
                      try clear hfz17_1
                      try clear hfz18_0
                      try clear hfz18_1
                      try clear hfz25_0
                      try clear hfz25_1
                      try clear p2
                      try clear p6
                      obtain ⟨x7_2, x8_2, x47_2, rfl, HA, HK2, HO_5, HO_7, HO_8, BK150, HB⟩ := hrel
                      cases gk with
                      | zero => exact absurd HA.out (by simp [tangramlaw11_RotNext.l0])
                      | succ k2 =>
                        have H := HA.out
                        clear HA
                        simp only [tangramlaw11_RotNext.l0] at H
                        by_cases c31 : x47_2 < (t152.length : Int)
                        · rw [if_pos c31] at H
                          have c31b0 : decide (x47_2 < (t152.length : Int)) = true := decide_eq_true c31
                          clear c31
                          replace H := Option.bind_eq_some_iff.mp H
                          obtain ⟨t163, A320, H⟩ := H
                          replace H : (if 0 ≤ t163 then (if t163 < (x7_2.length : Int) then (if 0 ≤ x47_2 then (if x47_2 < (t152.length : Int) then (if (rd t152 x47_2) < 0 then (some false) else (if (rd t152 x47_2) ≥ (t152.length : Int) then (some false) else (if 0 ≤ (rd t152 x47_2) then (if (rd t152 x47_2) < (x8_2.length : Int) then (if rdOf false x8_2 (rd t152 x47_2) = true then (some false) else (tangramlaw11_RotNext.l0 k2 t152 (x7_2.set (t163 : Int).toNat (wrap64 ((rd x7_2 t163) + 1))) (x8_2.set ((rd t152 x47_2) : Int).toNat true) (t152.length : Int) (wrap64 (x47_2 + 1)) a0_0 l0_1)) else (none)) else (none)))) else (none)) else (none)) else (none)) else (none)) = some r := H
                          have A32 := Aside0.mk A320
                          clear A320
                          by_cases c33 : 0 ≤ t163
                          · rw [if_pos c33] at H
                            have c33b0 : decide (0 ≤ t163) = true := decide_eq_true c33
                            clear c33
                            by_cases c34 : t163 < (x7_2.length : Int)
                            · rw [if_pos c34] at H
                              have c34b0 : decide (t163 < (x7_2.length : Int)) = true := decide_eq_true c34
                              clear c34
                              obtain ⟨y165, hy165⟩ : ∃ y_ : List Int, y_ = (x7_2.set (t163 : Int).toNat (wrap64 ((rd x7_2 t163) + 1))) := ⟨_, rfl⟩
                              replace H : (if 0 ≤ x47_2 then (if x47_2 < (t152.length : Int) then (if (rd t152 x47_2) < 0 then (some false) else (if (rd t152 x47_2) ≥ (t152.length : Int) then (some false) else (if 0 ≤ (rd t152 x47_2) then (if (rd t152 x47_2) < (x8_2.length : Int) then (if rdOf false x8_2 (rd t152 x47_2) = true then (some false) else (tangramlaw11_RotNext.l0 k2 t152 y165 (x8_2.set ((rd t152 x47_2) : Int).toNat true) (t152.length : Int) (wrap64 (x47_2 + 1)) a0_0 l0_1)) else (none)) else (none)))) else (none)) else (none)) = some r := by first | (rw [hy165]; with_reducible exact H) | (have H2_ := (Option.bind_some _ _).symm.trans H; rw [hy165]; with_reducible exact H2_) | (have H2_ := (Option.bind_some _ _).symm.trans H; with_reducible exact H2_) | with_reducible exact H | (rw [hy165]; exact H) | exact H
                              have Ny165 := Aside0.mk hy165
                              clear hy165
                              by_cases c36 : 0 ≤ x47_2
                              · rw [if_pos c36] at H
                                have c36b0 : decide (0 ≤ x47_2) = true := decide_eq_true c36
                                clear c36
                                by_cases c37 : x47_2 < (t152.length : Int)
                                · rw [if_pos c37] at H
                                  have c37b0 : decide (x47_2 < (t152.length : Int)) = true := decide_eq_true c37
                                  clear c37
                                  by_cases c38 : (rd t152 x47_2) < 0
                                  · rw [if_pos c38] at H
                                    have c38b0 : decide ((rd t152 x47_2) < 0) = true := decide_eq_true c38
                                    clear c38
                                    obtain rfl := Option.some.inj H
                                    have hcz39_0 : wr.cell? ⟨gb150, 0, none⟩ = some (.int .i64 a0_0) := (blk_cell BK150.out 0).trans rfl
                                    have hcz39_1 : wr.cell? ⟨gb150, 1, none⟩ = some (.slice A0_1 l0_1.length c0_1) := (blk_cell BK150.out 1).trans rfl
                                    have hfz39_0 := blk_frozen BK150.out 0
                                    have hfz39_1 := blk_frozen BK150.out 1
                                    go_wp2_with (first | ((with_reducible refine gate_callee (f := 14) rfl ?_); refine goesL_ (some 53) rfl rfl Try.func14 (by kernel_rfl) rfl #[.agg #[.int .i64 a0_0, .slice A0_1 l0_1.length c0_1], .int .i64 x47_2] rfl (by (try simp only [List.map_toArray, List.map_cons, List.map_nil]); first | done | rfl | (simp only [List.length_drop, List.length_take]; rfl)) ?_; (with_reducible refine (tangramref11_From.calls a0_0 _ _ l0_1 x47_2 t163 _ ?side1 ?side2 A32.out).mono ?_); (case side1 => repeat (first | exact (Kd.C_below HR0_1.out HB.out) | (with_reducible refine Kd.C_alloc ?_ _) | (with_reducible refine Kd.C_drewN ?_ _) | (with_reducible refine Kd.C_drew ?_))); (case side2 => exact HC0_1.out); rintro e w40 ⟨rfl, hb⟩; refine ⟨_, rfl, ?_⟩; have n0_ := Aside0.mk (Kd.R_below (by (with_reducible repeat (first | apply Kd.R_alloc | apply Kd.R_drewN | apply Kd.R_drew)); exact HO_5.out) hb); have n1_ := Aside0.mk (Kd.R_below (by (with_reducible repeat (first | apply Kd.R_alloc | apply Kd.R_drewN | apply Kd.R_drew)); exact HO_7.out) hb); have n2_ := Aside0.mk (Kd.R_below (by (with_reducible repeat (first | apply Kd.R_alloc | apply Kd.R_drewN | apply Kd.R_drew)); exact HO_8.out) hb); have n3_ := Aside0.mk (blk_below (g := gb150) (o := .cells #[.int .i64 a0_0, .slice A0_1 l0_1.length c0_1] 24 (0, 0)) (by (with_reducible repeat (first | refine blk_drewN ?_ _ | refine blk_drew ?_ | refine blk_alloc ?_ _)); exact BK150.out) hb); have n4_ := Aside0.mk (below_step (by repeat (first | (with_reducible first | exact HB.out | apply below_alloc | apply pw_below_drewN | apply below_drew1 | refine below_set ?_ GE150.out) | exact HB.out)) hb); clear HO_5; clear HO_7; clear HO_8; clear BK150; clear HB; have HO_5 := n0_; have HO_7 := n1_; have HO_8 := n2_; have BK150 := n3_; have HB := n4_; clear n0_ n1_ n2_ n3_ n4_; (try clear hb); (try clear hb2); (try clear hk); (try clear hi); obtain ⟨Ao41, co41, eo41⟩ := Kd.R_slice HO_7.out; subst eo41; have p164 : 0 ≤ (t163 : Int) := of_decide_eq_true (by first | (with_reducible assumption) | assumption); have q164 : t163 < (x7_2.length : Int) := of_decide_eq_true (by first | (with_reducible assumption) | assumption); obtain ⟨ad164, e164, hx164_0⟩ := Kd.at_int (Kd.R_reads' HO_7.out).2.2 t163 p164 q164; cases e164; replace p164 := eq_true p164; replace q164 := eq_true q164; have p35 : 0 ≤ (t163 : Int) := of_decide_eq_true (by first | (with_reducible assumption) | assumption); have q35 : (t163 : Int) < ((x7_2.length : Int) : Int) := of_decide_eq_true (by first | (with_reducible assumption) | assumption); obtain ⟨go35, co35, eo35, gb35, gl35, cl35, HG35⟩ := Kd.R_form HO_7.out (by omega); (first | cases eo35 | (injection eo35 with ea_ en_ ec_; (first | subst ea_ | (injection ea_ with ea_; subst ea_)); subst ec_; clear en_)); have GB35 := Aside0.mk gb35; have GG35 := Aside0.mk HG35; clear gb35 gl35 HG35; (first | simp only [add_plain] at hx164_0 | skip); obtain ⟨hx35_0, hf35_0⟩ := Kd.R_celln 0 HO_7.out (t163 : Int) p35 q35; replace p35 := eq_true p35; replace q35 := eq_true q35; obtain ⟨hy42_, hz42_⟩ := Kd.R_celln 0 HO_7.out (t163 : Int) (of_decide_eq_true (by first | (with_reducible assumption) | assumption)) (of_decide_eq_true (by first | (with_reducible assumption) | assumption)); have HP42 := Kd.R_putg HO_7.out (t163 : Int) (wrap64 ((rd x7_2 t163) + 1))) | ((with_reducible refine gate_store (t := 3) (p := 57) rfl ?_); refine store_event (t := 3) (p := 57) (v := ?vo_w43) (w1 := (w40.setCell ⟨go35, (t163 : Int).toNat, none⟩ (.int .i64 (wrap64 ((rd x7_2 t163) + 1))))) ?hg ?ho ?hn ?hr ?_; (case ho => rfl); (case hg => rfl); (case hn => rfl); (case hr => first | (go_simp; done) | (go_simp; rfl)); intro w43 hw; have hg : w40.grownBy w43 (some go35) := (by rw [hw]; exact HP42.2); have hp_ : Kd.R (Kd.int .i64) 3 w43 w.heap.size (fun k_ => some k_ ≠ (.slice Ao28 t152.length co28 : Value).ownBlock) (.slice (some ⟨go35, 0, none⟩) x7_2.length co41) y165 := (by rw [hw, Ny165.out]; exact HP42.1); clear HP42; have n0_ := Aside0.mk (Kd.R_after (v := (.slice (some ⟨go35, 0, none⟩) x7_2.length co41)) (v1 := (.slice (some ⟨go35, 0, none⟩) x7_2.length co41)) (ok := (fun _ => True)) (by (with_reducible repeat (first | apply Kd.R_alloc | apply Kd.R_drewN | apply Kd.R_drew)); exact Kd.R_mono HO_5.out (fun _ hk => ⟨trivial, hk⟩)) hg (.inl rfl)); have n1_ := Aside0.mk (hp_); have n2_ := Aside0.mk (Kd.R_over' (v := (.slice (some ⟨go35, 0, none⟩) x7_2.length co41)) (by (with_reducible repeat (first | apply Kd.R_alloc | apply Kd.R_drewN | apply Kd.R_drew)); exact HO_8.out) (Kd.R_typed HO_7.out) (by decide) hg); have n3_ := Aside0.mk (blk_grown (g := gb150) (o := .cells #[.int .i64 a0_0, .slice A0_1 l0_1.length c0_1] 24 (0, 0)) (by (with_reducible repeat (first | refine blk_drewN ?_ _ | refine blk_drew ?_ | refine blk_alloc ?_ _)); exact BK150.out) hg (Kd.R_ne HO_7.out BK150.out (by decide))); have n4_ := Aside0.mk ((by rw [hw]; exact below_set (HB.out) GB35.out : Below w.heap.size w w43)); clear HO_5; clear HO_7; clear HO_8; clear BK150; clear HB; have HO_5 := n0_; have HO_7 := n1_; have HO_8 := n2_; have BK150 := n3_; have HB := n4_; clear n0_ n1_ n2_ n3_ n4_; clear hg hw hp_; have p166 : 0 ≤ (x47_2 : Int) := of_decide_eq_true (by first | (with_reducible assumption) | assumption); have q166 : x47_2 < (t152.length : Int) := of_decide_eq_true (by first | (with_reducible assumption) | assumption); obtain ⟨ad166, e166, hx166_0⟩ := Kd.at_int (Kd.R_reads' HO_5.out).2.2 x47_2 p166 q166; cases e166; replace p166 := eq_true p166; replace q166 := eq_true q166))
                                    go_ret
                                    exact ⟨by first | rfl | (simp [errW_none, errW_some] <;> rfl) | (simp [*, errW_none, errW_some] <;> rfl), by repeat (first | (with_reducible first | exact HB.out | apply below_alloc | apply pw_below_drewN | apply below_drew1 | refine below_set ?_ GE150.out) | exact HB.out)⟩
                                  · rw [if_neg c38] at H
                                    have c38b0 : decide ((rd t152 x47_2) < 0) = false := decide_eq_false c38
                                    clear c38
                                    by_cases c44 : (rd t152 x47_2) ≥ (t152.length : Int)
                                    · rw [if_pos c44] at H
                                      have c44b0 : decide ((t152.length : Int) ≤ (rd t152 x47_2)) = true := decide_eq_true c44
                                      clear c44
                                      obtain rfl := Option.some.inj H
                                      have hcz45_0 : wr.cell? ⟨gb150, 0, none⟩ = some (.int .i64 a0_0) := (blk_cell BK150.out 0).trans rfl
                                      have hcz45_1 : wr.cell? ⟨gb150, 1, none⟩ = some (.slice A0_1 l0_1.length c0_1) := (blk_cell BK150.out 1).trans rfl
                                      have hfz45_0 := blk_frozen BK150.out 0
                                      have hfz45_1 := blk_frozen BK150.out 1
                                      go_wp2_with (first | ((with_reducible refine gate_callee (f := 14) rfl ?_); refine goesL_ (some 53) rfl rfl Try.func14 (by kernel_rfl) rfl #[.agg #[.int .i64 a0_0, .slice A0_1 l0_1.length c0_1], .int .i64 x47_2] rfl (by (try simp only [List.map_toArray, List.map_cons, List.map_nil]); first | done | rfl | (simp only [List.length_drop, List.length_take]; rfl)) ?_; (with_reducible refine (tangramref11_From.calls a0_0 _ _ l0_1 x47_2 t163 _ ?side1 ?side2 A32.out).mono ?_); (case side1 => repeat (first | exact (Kd.C_below HR0_1.out HB.out) | (with_reducible refine Kd.C_alloc ?_ _) | (with_reducible refine Kd.C_drewN ?_ _) | (with_reducible refine Kd.C_drew ?_))); (case side2 => exact HC0_1.out); rintro e w46 ⟨rfl, hb⟩; refine ⟨_, rfl, ?_⟩; have n0_ := Aside0.mk (Kd.R_below (by (with_reducible repeat (first | apply Kd.R_alloc | apply Kd.R_drewN | apply Kd.R_drew)); exact HO_5.out) hb); have n1_ := Aside0.mk (Kd.R_below (by (with_reducible repeat (first | apply Kd.R_alloc | apply Kd.R_drewN | apply Kd.R_drew)); exact HO_7.out) hb); have n2_ := Aside0.mk (Kd.R_below (by (with_reducible repeat (first | apply Kd.R_alloc | apply Kd.R_drewN | apply Kd.R_drew)); exact HO_8.out) hb); have n3_ := Aside0.mk (blk_below (g := gb150) (o := .cells #[.int .i64 a0_0, .slice A0_1 l0_1.length c0_1] 24 (0, 0)) (by (with_reducible repeat (first | refine blk_drewN ?_ _ | refine blk_drew ?_ | refine blk_alloc ?_ _)); exact BK150.out) hb); have n4_ := Aside0.mk (below_step (by repeat (first | (with_reducible first | exact HB.out | apply below_alloc | apply pw_below_drewN | apply below_drew1 | refine below_set ?_ GE150.out) | exact HB.out)) hb); clear HO_5; clear HO_7; clear HO_8; clear BK150; clear HB; have HO_5 := n0_; have HO_7 := n1_; have HO_8 := n2_; have BK150 := n3_; have HB := n4_; clear n0_ n1_ n2_ n3_ n4_; (try clear hb); (try clear hb2); (try clear hk); (try clear hi); obtain ⟨Ao47, co47, eo47⟩ := Kd.R_slice HO_7.out; subst eo47; have p164 : 0 ≤ (t163 : Int) := of_decide_eq_true (by first | (with_reducible assumption) | assumption); have q164 : t163 < (x7_2.length : Int) := of_decide_eq_true (by first | (with_reducible assumption) | assumption); obtain ⟨ad164, e164, hx164_0⟩ := Kd.at_int (Kd.R_reads' HO_7.out).2.2 t163 p164 q164; cases e164; replace p164 := eq_true p164; replace q164 := eq_true q164; have p35 : 0 ≤ (t163 : Int) := of_decide_eq_true (by first | (with_reducible assumption) | assumption); have q35 : (t163 : Int) < ((x7_2.length : Int) : Int) := of_decide_eq_true (by first | (with_reducible assumption) | assumption); obtain ⟨go35, co35, eo35, gb35, gl35, cl35, HG35⟩ := Kd.R_form HO_7.out (by omega); (first | cases eo35 | (injection eo35 with ea_ en_ ec_; (first | subst ea_ | (injection ea_ with ea_; subst ea_)); subst ec_; clear en_)); have GB35 := Aside0.mk gb35; have GG35 := Aside0.mk HG35; clear gb35 gl35 HG35; (first | simp only [add_plain] at hx164_0 | skip); obtain ⟨hx35_0, hf35_0⟩ := Kd.R_celln 0 HO_7.out (t163 : Int) p35 q35; replace p35 := eq_true p35; replace q35 := eq_true q35; obtain ⟨hy48_, hz48_⟩ := Kd.R_celln 0 HO_7.out (t163 : Int) (of_decide_eq_true (by first | (with_reducible assumption) | assumption)) (of_decide_eq_true (by first | (with_reducible assumption) | assumption)); have HP48 := Kd.R_putg HO_7.out (t163 : Int) (wrap64 ((rd x7_2 t163) + 1))) | ((with_reducible refine gate_store (t := 3) (p := 57) rfl ?_); refine store_event (t := 3) (p := 57) (v := ?vo_w49) (w1 := (w46.setCell ⟨go35, (t163 : Int).toNat, none⟩ (.int .i64 (wrap64 ((rd x7_2 t163) + 1))))) ?hg ?ho ?hn ?hr ?_; (case ho => rfl); (case hg => rfl); (case hn => rfl); (case hr => first | (go_simp; done) | (go_simp; rfl)); intro w49 hw; have hg : w46.grownBy w49 (some go35) := (by rw [hw]; exact HP48.2); have hp_ : Kd.R (Kd.int .i64) 3 w49 w.heap.size (fun k_ => some k_ ≠ (.slice Ao28 t152.length co28 : Value).ownBlock) (.slice (some ⟨go35, 0, none⟩) x7_2.length co47) y165 := (by rw [hw, Ny165.out]; exact HP48.1); clear HP48; have n0_ := Aside0.mk (Kd.R_after (v := (.slice (some ⟨go35, 0, none⟩) x7_2.length co47)) (v1 := (.slice (some ⟨go35, 0, none⟩) x7_2.length co47)) (ok := (fun _ => True)) (by (with_reducible repeat (first | apply Kd.R_alloc | apply Kd.R_drewN | apply Kd.R_drew)); exact Kd.R_mono HO_5.out (fun _ hk => ⟨trivial, hk⟩)) hg (.inl rfl)); have n1_ := Aside0.mk (hp_); have n2_ := Aside0.mk (Kd.R_over' (v := (.slice (some ⟨go35, 0, none⟩) x7_2.length co47)) (by (with_reducible repeat (first | apply Kd.R_alloc | apply Kd.R_drewN | apply Kd.R_drew)); exact HO_8.out) (Kd.R_typed HO_7.out) (by decide) hg); have n3_ := Aside0.mk (blk_grown (g := gb150) (o := .cells #[.int .i64 a0_0, .slice A0_1 l0_1.length c0_1] 24 (0, 0)) (by (with_reducible repeat (first | refine blk_drewN ?_ _ | refine blk_drew ?_ | refine blk_alloc ?_ _)); exact BK150.out) hg (Kd.R_ne HO_7.out BK150.out (by decide))); have n4_ := Aside0.mk ((by rw [hw]; exact below_set (HB.out) GB35.out : Below w.heap.size w w49)); clear HO_5; clear HO_7; clear HO_8; clear BK150; clear HB; have HO_5 := n0_; have HO_7 := n1_; have HO_8 := n2_; have BK150 := n3_; have HB := n4_; clear n0_ n1_ n2_ n3_ n4_; clear hg hw hp_; have p166 : 0 ≤ (x47_2 : Int) := of_decide_eq_true (by first | (with_reducible assumption) | assumption); have q166 : x47_2 < (t152.length : Int) := of_decide_eq_true (by first | (with_reducible assumption) | assumption); obtain ⟨ad166, e166, hx166_0⟩ := Kd.at_int (Kd.R_reads' HO_5.out).2.2 x47_2 p166 q166; cases e166; replace p166 := eq_true p166; replace q166 := eq_true q166; have p167 : 0 ≤ (x47_2 : Int) := of_decide_eq_true (by first | (with_reducible assumption) | assumption); have q167 : x47_2 < (t152.length : Int) := of_decide_eq_true (by first | (with_reducible assumption) | assumption); obtain ⟨ad167, e167, hx167_0⟩ := Kd.at_int (Kd.R_reads' HO_5.out).2.2 x47_2 p167 q167; obtain rfl : ad166 = ad167 := (by injection e167); replace p167 := eq_true p167; replace q167 := eq_true q167))
                                      go_ret
                                      exact ⟨by first | rfl | (simp [errW_none, errW_some] <;> rfl) | (simp [*, errW_none, errW_some] <;> rfl), by repeat (first | (with_reducible first | exact HB.out | apply below_alloc | apply pw_below_drewN | apply below_drew1 | refine below_set ?_ GE150.out) | exact HB.out)⟩
                                    · rw [if_neg c44] at H
                                      have c44b0 : decide ((t152.length : Int) ≤ (rd t152 x47_2)) = false := decide_eq_false c44
                                      clear c44
                                      by_cases c50 : 0 ≤ (rd t152 x47_2)
                                      · rw [if_pos c50] at H
                                        have c50b0 : decide (0 ≤ (rd t152 x47_2)) = true := decide_eq_true c50
                                        clear c50
                                        by_cases c51 : (rd t152 x47_2) < (x8_2.length : Int)
                                        · rw [if_pos c51] at H
                                          have c51b0 : decide ((rd t152 x47_2) < (x8_2.length : Int)) = true := decide_eq_true c51
                                          clear c51
                                          obtain ⟨bq52, hbq52⟩ : ∃ b_ : Bool, b_ = (rdOf false x8_2 (rd t152 x47_2)) := ⟨_, rfl⟩
                                          replace H : (if bq52 = true then (some false) else (tangramlaw11_RotNext.l0 k2 t152 y165 (x8_2.set ((rd t152 x47_2) : Int).toNat true) (t152.length : Int) (wrap64 (x47_2 + 1)) a0_0 l0_1)) = some r := by rw [← hbq52] at H; exact H
                                          have Nbq52 := Aside0.mk hbq52
                                          clear hbq52
                                          by_cases c53 : bq52 = true
                                          · subst c53
                                            have H1 : (some false) = some r := by rw [if_pos rfl] at H; exact H
                                            clear H
                                            have H := H1
                                            clear H1
                                            obtain rfl := Option.some.inj H
                                            have hcz54_0 : wr.cell? ⟨gb150, 0, none⟩ = some (.int .i64 a0_0) := (blk_cell BK150.out 0).trans rfl
                                            have hcz54_1 : wr.cell? ⟨gb150, 1, none⟩ = some (.slice A0_1 l0_1.length c0_1) := (blk_cell BK150.out 1).trans rfl
                                            have hfz54_0 := blk_frozen BK150.out 0
                                            have hfz54_1 := blk_frozen BK150.out 1
                                            go_wp2_with (first | ((with_reducible refine gate_callee (f := 14) rfl ?_); refine goesL_ (some 53) rfl rfl Try.func14 (by kernel_rfl) rfl #[.agg #[.int .i64 a0_0, .slice A0_1 l0_1.length c0_1], .int .i64 x47_2] rfl (by (try simp only [List.map_toArray, List.map_cons, List.map_nil]); first | done | rfl | (simp only [List.length_drop, List.length_take]; rfl)) ?_; (with_reducible refine (tangramref11_From.calls a0_0 _ _ l0_1 x47_2 t163 _ ?side1 ?side2 A32.out).mono ?_); (case side1 => repeat (first | exact (Kd.C_below HR0_1.out HB.out) | (with_reducible refine Kd.C_alloc ?_ _) | (with_reducible refine Kd.C_drewN ?_ _) | (with_reducible refine Kd.C_drew ?_))); (case side2 => exact HC0_1.out); rintro e w55 ⟨rfl, hb⟩; refine ⟨_, rfl, ?_⟩; have n0_ := Aside0.mk (Kd.R_below (by (with_reducible repeat (first | apply Kd.R_alloc | apply Kd.R_drewN | apply Kd.R_drew)); exact HO_5.out) hb); have n1_ := Aside0.mk (Kd.R_below (by (with_reducible repeat (first | apply Kd.R_alloc | apply Kd.R_drewN | apply Kd.R_drew)); exact HO_7.out) hb); have n2_ := Aside0.mk (Kd.R_below (by (with_reducible repeat (first | apply Kd.R_alloc | apply Kd.R_drewN | apply Kd.R_drew)); exact HO_8.out) hb); have n3_ := Aside0.mk (blk_below (g := gb150) (o := .cells #[.int .i64 a0_0, .slice A0_1 l0_1.length c0_1] 24 (0, 0)) (by (with_reducible repeat (first | refine blk_drewN ?_ _ | refine blk_drew ?_ | refine blk_alloc ?_ _)); exact BK150.out) hb); have n4_ := Aside0.mk (below_step (by repeat (first | (with_reducible first | exact HB.out | apply below_alloc | apply pw_below_drewN | apply below_drew1 | refine below_set ?_ GE150.out) | exact HB.out)) hb); clear HO_5; clear HO_7; clear HO_8; clear BK150; clear HB; have HO_5 := n0_; have HO_7 := n1_; have HO_8 := n2_; have BK150 := n3_; have HB := n4_; clear n0_ n1_ n2_ n3_ n4_; (try clear hb); (try clear hb2); (try clear hk); (try clear hi); obtain ⟨Ao56, co56, eo56⟩ := Kd.R_slice HO_7.out; subst eo56; have p164 : 0 ≤ (t163 : Int) := of_decide_eq_true (by first | (with_reducible assumption) | assumption); have q164 : t163 < (x7_2.length : Int) := of_decide_eq_true (by first | (with_reducible assumption) | assumption); obtain ⟨ad164, e164, hx164_0⟩ := Kd.at_int (Kd.R_reads' HO_7.out).2.2 t163 p164 q164; cases e164; replace p164 := eq_true p164; replace q164 := eq_true q164; have p35 : 0 ≤ (t163 : Int) := of_decide_eq_true (by first | (with_reducible assumption) | assumption); have q35 : (t163 : Int) < ((x7_2.length : Int) : Int) := of_decide_eq_true (by first | (with_reducible assumption) | assumption); obtain ⟨go35, co35, eo35, gb35, gl35, cl35, HG35⟩ := Kd.R_form HO_7.out (by omega); (first | cases eo35 | (injection eo35 with ea_ en_ ec_; (first | subst ea_ | (injection ea_ with ea_; subst ea_)); subst ec_; clear en_)); have GB35 := Aside0.mk gb35; have GG35 := Aside0.mk HG35; clear gb35 gl35 HG35; (first | simp only [add_plain] at hx164_0 | skip); obtain ⟨hx35_0, hf35_0⟩ := Kd.R_celln 0 HO_7.out (t163 : Int) p35 q35; replace p35 := eq_true p35; replace q35 := eq_true q35; obtain ⟨hy57_, hz57_⟩ := Kd.R_celln 0 HO_7.out (t163 : Int) (of_decide_eq_true (by first | (with_reducible assumption) | assumption)) (of_decide_eq_true (by first | (with_reducible assumption) | assumption)); have HP57 := Kd.R_putg HO_7.out (t163 : Int) (wrap64 ((rd x7_2 t163) + 1))) | ((with_reducible refine gate_store (t := 3) (p := 57) rfl ?_); refine store_event (t := 3) (p := 57) (v := ?vo_w58) (w1 := (w55.setCell ⟨go35, (t163 : Int).toNat, none⟩ (.int .i64 (wrap64 ((rd x7_2 t163) + 1))))) ?hg ?ho ?hn ?hr ?_; (case ho => rfl); (case hg => rfl); (case hn => rfl); (case hr => first | (go_simp; done) | (go_simp; rfl)); intro w58 hw; have hg : w55.grownBy w58 (some go35) := (by rw [hw]; exact HP57.2); have hp_ : Kd.R (Kd.int .i64) 3 w58 w.heap.size (fun k_ => some k_ ≠ (.slice Ao28 t152.length co28 : Value).ownBlock) (.slice (some ⟨go35, 0, none⟩) x7_2.length co56) y165 := (by rw [hw, Ny165.out]; exact HP57.1); clear HP57; have n0_ := Aside0.mk (Kd.R_after (v := (.slice (some ⟨go35, 0, none⟩) x7_2.length co56)) (v1 := (.slice (some ⟨go35, 0, none⟩) x7_2.length co56)) (ok := (fun _ => True)) (by (with_reducible repeat (first | apply Kd.R_alloc | apply Kd.R_drewN | apply Kd.R_drew)); exact Kd.R_mono HO_5.out (fun _ hk => ⟨trivial, hk⟩)) hg (.inl rfl)); have n1_ := Aside0.mk (hp_); have n2_ := Aside0.mk (Kd.R_over' (v := (.slice (some ⟨go35, 0, none⟩) x7_2.length co56)) (by (with_reducible repeat (first | apply Kd.R_alloc | apply Kd.R_drewN | apply Kd.R_drew)); exact HO_8.out) (Kd.R_typed HO_7.out) (by decide) hg); have n3_ := Aside0.mk (blk_grown (g := gb150) (o := .cells #[.int .i64 a0_0, .slice A0_1 l0_1.length c0_1] 24 (0, 0)) (by (with_reducible repeat (first | refine blk_drewN ?_ _ | refine blk_drew ?_ | refine blk_alloc ?_ _)); exact BK150.out) hg (Kd.R_ne HO_7.out BK150.out (by decide))); have n4_ := Aside0.mk ((by rw [hw]; exact below_set (HB.out) GB35.out : Below w.heap.size w w58)); clear HO_5; clear HO_7; clear HO_8; clear BK150; clear HB; have HO_5 := n0_; have HO_7 := n1_; have HO_8 := n2_; have BK150 := n3_; have HB := n4_; clear n0_ n1_ n2_ n3_ n4_; clear hg hw hp_; have p166 : 0 ≤ (x47_2 : Int) := of_decide_eq_true (by first | (with_reducible assumption) | assumption); have q166 : x47_2 < (t152.length : Int) := of_decide_eq_true (by first | (with_reducible assumption) | assumption); obtain ⟨ad166, e166, hx166_0⟩ := Kd.at_int (Kd.R_reads' HO_5.out).2.2 x47_2 p166 q166; cases e166; replace p166 := eq_true p166; replace q166 := eq_true q166; have p167 : 0 ≤ (x47_2 : Int) := of_decide_eq_true (by first | (with_reducible assumption) | assumption); have q167 : x47_2 < (t152.length : Int) := of_decide_eq_true (by first | (with_reducible assumption) | assumption); obtain ⟨ad167, e167, hx167_0⟩ := Kd.at_int (Kd.R_reads' HO_5.out).2.2 x47_2 p167 q167; obtain rfl : ad166 = ad167 := (by injection e167); replace p167 := eq_true p167; replace q167 := eq_true q167; have p168 : 0 ≤ (x47_2 : Int) := of_decide_eq_true (by first | (with_reducible assumption) | assumption); have q168 : x47_2 < (t152.length : Int) := of_decide_eq_true (by first | (with_reducible assumption) | assumption); obtain ⟨ad168, e168, hx168_0⟩ := Kd.at_int (Kd.R_reads' HO_5.out).2.2 x47_2 p168 q168; obtain rfl : ad166 = ad168 := (by injection e168); replace p168 := eq_true p168; replace q168 := eq_true q168; obtain ⟨Ao59, co59, eo59⟩ := Kd.R_slice HO_8.out; subst eo59; have p169 : 0 ≤ ((rd t152 x47_2) : Int) := of_decide_eq_true (by first | (with_reducible assumption) | assumption); have q169 : (rd t152 x47_2) < (x8_2.length : Int) := of_decide_eq_true (by first | (with_reducible assumption) | assumption); obtain ⟨ad169, e169, hx169_0⟩ := Kd.at_bool (Kd.R_reads' HO_8.out).2.2 (rd t152 x47_2) p169 q169; (try rw [← Nbq52.out] at hx169_0); cases e169; replace p169 := eq_true p169; replace q169 := eq_true q169))
                                            go_ret
                                            exact ⟨by first | rfl | (simp [errW_none, errW_some] <;> rfl) | (simp [*, errW_none, errW_some] <;> rfl), by repeat (first | (with_reducible first | exact HB.out | apply below_alloc | apply pw_below_drewN | apply below_drew1 | refine below_set ?_ GE150.out) | exact HB.out)⟩
                                          · replace c53 := Bool.eq_false_iff.mpr c53
                                            subst c53
                                            have H1 : (tangramlaw11_RotNext.l0 k2 t152 y165 (x8_2.set ((rd t152 x47_2) : Int).toNat true) (t152.length : Int) (wrap64 (x47_2 + 1)) a0_0 l0_1) = some r := by rw [if_neg (show ¬ (false = true) by decide)] at H; exact H
                                            clear H
                                            have H := H1
                                            clear H1
                                            obtain ⟨y171, hy171⟩ : ∃ y_ : List Bool, y_ = (x8_2.set ((rd t152 x47_2) : Int).toNat true) := ⟨_, rfl⟩
                                            replace H : (tangramlaw11_RotNext.l0 k2 t152 y165 y171 (t152.length : Int) (wrap64 (x47_2 + 1)) a0_0 l0_1) = some r := by first | (rw [hy171]; with_reducible exact H) | (have H2_ := (Option.bind_some _ _).symm.trans H; rw [hy171]; with_reducible exact H2_) | (have H2_ := (Option.bind_some _ _).symm.trans H; with_reducible exact H2_) | with_reducible exact H | (rw [hy171]; exact H) | exact H
                                            have Ny171 := Aside0.mk hy171
                                            clear hy171
                                            have H' := Aside0.mk H
                                            clear H
                                            have hcz61_0 : wr.cell? ⟨gb150, 0, none⟩ = some (.int .i64 a0_0) := (blk_cell BK150.out 0).trans rfl
                                            have hcz61_1 : wr.cell? ⟨gb150, 1, none⟩ = some (.slice A0_1 l0_1.length c0_1) := (blk_cell BK150.out 1).trans rfl
                                            have hfz61_0 := blk_frozen BK150.out 0
                                            have hfz61_1 := blk_frozen BK150.out 1
                                            go_wp2_with (first | ((with_reducible refine gate_callee (f := 14) rfl ?_); refine goesL_ (some 53) rfl rfl Try.func14 (by kernel_rfl) rfl #[.agg #[.int .i64 a0_0, .slice A0_1 l0_1.length c0_1], .int .i64 x47_2] rfl (by (try simp only [List.map_toArray, List.map_cons, List.map_nil]); first | done | rfl | (simp only [List.length_drop, List.length_take]; rfl)) ?_; (with_reducible refine (tangramref11_From.calls a0_0 _ _ l0_1 x47_2 t163 _ ?side1 ?side2 A32.out).mono ?_); (case side1 => repeat (first | exact (Kd.C_below HR0_1.out HB.out) | (with_reducible refine Kd.C_alloc ?_ _) | (with_reducible refine Kd.C_drewN ?_ _) | (with_reducible refine Kd.C_drew ?_))); (case side2 => exact HC0_1.out); rintro e w62 ⟨rfl, hb⟩; refine ⟨_, rfl, ?_⟩; have n0_ := Aside0.mk (Kd.R_below (by (with_reducible repeat (first | apply Kd.R_alloc | apply Kd.R_drewN | apply Kd.R_drew)); exact HO_5.out) hb); have n1_ := Aside0.mk (Kd.R_below (by (with_reducible repeat (first | apply Kd.R_alloc | apply Kd.R_drewN | apply Kd.R_drew)); exact HO_7.out) hb); have n2_ := Aside0.mk (Kd.R_below (by (with_reducible repeat (first | apply Kd.R_alloc | apply Kd.R_drewN | apply Kd.R_drew)); exact HO_8.out) hb); have n3_ := Aside0.mk (blk_below (g := gb150) (o := .cells #[.int .i64 a0_0, .slice A0_1 l0_1.length c0_1] 24 (0, 0)) (by (with_reducible repeat (first | refine blk_drewN ?_ _ | refine blk_drew ?_ | refine blk_alloc ?_ _)); exact BK150.out) hb); have n4_ := Aside0.mk (below_step (by repeat (first | (with_reducible first | exact HB.out | apply below_alloc | apply pw_below_drewN | apply below_drew1 | refine below_set ?_ GE150.out) | exact HB.out)) hb); clear HO_5; clear HO_7; clear HO_8; clear BK150; clear HB; have HO_5 := n0_; have HO_7 := n1_; have HO_8 := n2_; have BK150 := n3_; have HB := n4_; clear n0_ n1_ n2_ n3_ n4_; (try clear hb); (try clear hb2); (try clear hk); (try clear hi); obtain ⟨Ao63, co63, eo63⟩ := Kd.R_slice HO_7.out; subst eo63; have p164 : 0 ≤ (t163 : Int) := of_decide_eq_true (by first | (with_reducible assumption) | assumption); have q164 : t163 < (x7_2.length : Int) := of_decide_eq_true (by first | (with_reducible assumption) | assumption); obtain ⟨ad164, e164, hx164_0⟩ := Kd.at_int (Kd.R_reads' HO_7.out).2.2 t163 p164 q164; cases e164; replace p164 := eq_true p164; replace q164 := eq_true q164; have p35 : 0 ≤ (t163 : Int) := of_decide_eq_true (by first | (with_reducible assumption) | assumption); have q35 : (t163 : Int) < ((x7_2.length : Int) : Int) := of_decide_eq_true (by first | (with_reducible assumption) | assumption); obtain ⟨go35, co35, eo35, gb35, gl35, cl35, HG35⟩ := Kd.R_form HO_7.out (by omega); (first | cases eo35 | (injection eo35 with ea_ en_ ec_; (first | subst ea_ | (injection ea_ with ea_; subst ea_)); subst ec_; clear en_)); have GB35 := Aside0.mk gb35; have GG35 := Aside0.mk HG35; clear gb35 gl35 HG35; (first | simp only [add_plain] at hx164_0 | skip); obtain ⟨hx35_0, hf35_0⟩ := Kd.R_celln 0 HO_7.out (t163 : Int) p35 q35; replace p35 := eq_true p35; replace q35 := eq_true q35; obtain ⟨hy64_, hz64_⟩ := Kd.R_celln 0 HO_7.out (t163 : Int) (of_decide_eq_true (by first | (with_reducible assumption) | assumption)) (of_decide_eq_true (by first | (with_reducible assumption) | assumption)); have HP64 := Kd.R_putg HO_7.out (t163 : Int) (wrap64 ((rd x7_2 t163) + 1))) | ((with_reducible refine gate_store (t := 3) (p := 57) rfl ?_); refine store_event (t := 3) (p := 57) (v := ?vo_w65) (w1 := (w62.setCell ⟨go35, (t163 : Int).toNat, none⟩ (.int .i64 (wrap64 ((rd x7_2 t163) + 1))))) ?hg ?ho ?hn ?hr ?_; (case ho => rfl); (case hg => rfl); (case hn => rfl); (case hr => first | (go_simp; done) | (go_simp; rfl)); intro w65 hw; have hg : w62.grownBy w65 (some go35) := (by rw [hw]; exact HP64.2); have hp_ : Kd.R (Kd.int .i64) 3 w65 w.heap.size (fun k_ => some k_ ≠ (.slice Ao28 t152.length co28 : Value).ownBlock) (.slice (some ⟨go35, 0, none⟩) x7_2.length co63) y165 := (by rw [hw, Ny165.out]; exact HP64.1); clear HP64; have n0_ := Aside0.mk (Kd.R_after (v := (.slice (some ⟨go35, 0, none⟩) x7_2.length co63)) (v1 := (.slice (some ⟨go35, 0, none⟩) x7_2.length co63)) (ok := (fun _ => True)) (by (with_reducible repeat (first | apply Kd.R_alloc | apply Kd.R_drewN | apply Kd.R_drew)); exact Kd.R_mono HO_5.out (fun _ hk => ⟨trivial, hk⟩)) hg (.inl rfl)); have n1_ := Aside0.mk (hp_); have n2_ := Aside0.mk (Kd.R_over' (v := (.slice (some ⟨go35, 0, none⟩) x7_2.length co63)) (by (with_reducible repeat (first | apply Kd.R_alloc | apply Kd.R_drewN | apply Kd.R_drew)); exact HO_8.out) (Kd.R_typed HO_7.out) (by decide) hg); have n3_ := Aside0.mk (blk_grown (g := gb150) (o := .cells #[.int .i64 a0_0, .slice A0_1 l0_1.length c0_1] 24 (0, 0)) (by (with_reducible repeat (first | refine blk_drewN ?_ _ | refine blk_drew ?_ | refine blk_alloc ?_ _)); exact BK150.out) hg (Kd.R_ne HO_7.out BK150.out (by decide))); have n4_ := Aside0.mk ((by rw [hw]; exact below_set (HB.out) GB35.out : Below w.heap.size w w65)); clear HO_5; clear HO_7; clear HO_8; clear BK150; clear HB; have HO_5 := n0_; have HO_7 := n1_; have HO_8 := n2_; have BK150 := n3_; have HB := n4_; clear n0_ n1_ n2_ n3_ n4_; clear hg hw hp_; have p166 : 0 ≤ (x47_2 : Int) := of_decide_eq_true (by first | (with_reducible assumption) | assumption); have q166 : x47_2 < (t152.length : Int) := of_decide_eq_true (by first | (with_reducible assumption) | assumption); obtain ⟨ad166, e166, hx166_0⟩ := Kd.at_int (Kd.R_reads' HO_5.out).2.2 x47_2 p166 q166; cases e166; replace p166 := eq_true p166; replace q166 := eq_true q166; have p167 : 0 ≤ (x47_2 : Int) := of_decide_eq_true (by first | (with_reducible assumption) | assumption); have q167 : x47_2 < (t152.length : Int) := of_decide_eq_true (by first | (with_reducible assumption) | assumption); obtain ⟨ad167, e167, hx167_0⟩ := Kd.at_int (Kd.R_reads' HO_5.out).2.2 x47_2 p167 q167; obtain rfl : ad166 = ad167 := (by injection e167); replace p167 := eq_true p167; replace q167 := eq_true q167; have p168 : 0 ≤ (x47_2 : Int) := of_decide_eq_true (by first | (with_reducible assumption) | assumption); have q168 : x47_2 < (t152.length : Int) := of_decide_eq_true (by first | (with_reducible assumption) | assumption); obtain ⟨ad168, e168, hx168_0⟩ := Kd.at_int (Kd.R_reads' HO_5.out).2.2 x47_2 p168 q168; obtain rfl : ad166 = ad168 := (by injection e168); replace p168 := eq_true p168; replace q168 := eq_true q168; obtain ⟨Ao66, co66, eo66⟩ := Kd.R_slice HO_8.out; subst eo66; have p169 : 0 ≤ ((rd t152 x47_2) : Int) := of_decide_eq_true (by first | (with_reducible assumption) | assumption); have q169 : (rd t152 x47_2) < (x8_2.length : Int) := of_decide_eq_true (by first | (with_reducible assumption) | assumption); obtain ⟨ad169, e169, hx169_0⟩ := Kd.at_bool (Kd.R_reads' HO_8.out).2.2 (rd t152 x47_2) p169 q169; (try rw [← Nbq52.out] at hx169_0); cases e169; replace p169 := eq_true p169; replace q169 := eq_true q169; have p170 : 0 ≤ (x47_2 : Int) := of_decide_eq_true (by first | (with_reducible assumption) | assumption); have q170 : x47_2 < (t152.length : Int) := of_decide_eq_true (by first | (with_reducible assumption) | assumption); obtain ⟨ad170, e170, hx170_0⟩ := Kd.at_int (Kd.R_reads' HO_5.out).2.2 x47_2 p170 q170; obtain rfl : ad166 = ad170 := (by injection e170); replace p170 := eq_true p170; replace q170 := eq_true q170; have p60 : 0 ≤ ((rd t152 x47_2) : Int) := of_decide_eq_true (by first | (with_reducible assumption) | assumption); have q60 : ((rd t152 x47_2) : Int) < ((x8_2.length : Int) : Int) := of_decide_eq_true (by first | (with_reducible assumption) | assumption); obtain ⟨go60, co60, eo60, gb60, gl60, cl60, HG60⟩ := Kd.R_form HO_8.out (by omega); (first | cases eo60 | (injection eo60 with ea_ en_ ec_; (first | subst ea_ | (injection ea_ with ea_; subst ea_)); subst ec_; clear en_)); have GB60 := Aside0.mk gb60; have GG60 := Aside0.mk HG60; clear gb60 gl60 HG60; (first | simp only [add_plain] at hx169_0 | skip); obtain ⟨hx60_0, hf60_0⟩ := Kd.R_celln false HO_8.out ((rd t152 x47_2) : Int) p60 q60; replace p60 := eq_true p60; replace q60 := eq_true q60; obtain ⟨hy67_, hz67_⟩ := Kd.R_celln false HO_8.out ((rd t152 x47_2) : Int) (of_decide_eq_true (by first | (with_reducible assumption) | assumption)) (of_decide_eq_true (by first | (with_reducible assumption) | assumption)); have HP67 := Kd.R_putg HO_8.out ((rd t152 x47_2) : Int) true) | ((with_reducible refine gate_store (t := 4) (p := 86) rfl ?_); refine store_event (t := 4) (p := 86) (v := ?vo_w68) (w1 := (w65.setCell ⟨go60, ((rd t152 x47_2) : Int).toNat, none⟩ (.bool true))) ?hg ?ho ?hn ?hr ?_; (case ho => rfl); (case hg => rfl); (case hn => rfl); (case hr => first | (go_simp; done) | (go_simp; rfl)); intro w68 hw; have hg : w65.grownBy w68 (some go60) := (by rw [hw]; exact HP67.2); have hp_ : Kd.R Kd.bool 4 w68 w.heap.size (fun _ => True) (.slice (some ⟨go60, 0, none⟩) x8_2.length co66) y171 := (by rw [hw, Ny171.out]; exact HP67.1); clear HP67; have n0_ := Aside0.mk (Kd.R_over' (v := (.slice (some ⟨go60, 0, none⟩) x8_2.length co66)) (by (with_reducible repeat (first | apply Kd.R_alloc | apply Kd.R_drewN | apply Kd.R_drew)); exact HO_5.out) (Kd.R_typed HO_8.out) (by decide) hg); have n1_ := Aside0.mk (Kd.R_over' (v := (.slice (some ⟨go60, 0, none⟩) x8_2.length co66)) (by (with_reducible repeat (first | apply Kd.R_alloc | apply Kd.R_drewN | apply Kd.R_drew)); exact HO_7.out) (Kd.R_typed HO_8.out) (by decide) hg); have n2_ := Aside0.mk (hp_); have n3_ := Aside0.mk (blk_grown (g := gb150) (o := .cells #[.int .i64 a0_0, .slice A0_1 l0_1.length c0_1] 24 (0, 0)) (by (with_reducible repeat (first | refine blk_drewN ?_ _ | refine blk_drew ?_ | refine blk_alloc ?_ _)); exact BK150.out) hg (Kd.R_ne HO_8.out BK150.out (by decide))); have n4_ := Aside0.mk ((by rw [hw]; exact below_set (HB.out) GB60.out : Below w.heap.size w w68)); clear HO_5; clear HO_7; clear HO_8; clear BK150; clear HB; have HO_5 := n0_; have HO_7 := n1_; have HO_8 := n2_; have BK150 := n3_; have HB := n4_; clear n0_ n1_ n2_ n3_ n4_; clear hg hw hp_))
                                            go_roundg k2
                                            case measure => have := HJ6.out; have := HK2.out; omega
                                            case rel => exact ⟨(y165), (y171), (wrap64 (x47_2 + 1)), (by first | rfl | (simp; done) | (simp [*]; done)), H', ⟨by have := HJ6.out; have := HK2.out; omega⟩, ⟨by (with_reducible repeat (first | apply Kd.R_alloc | apply Kd.R_drewN | apply Kd.R_drew)); exact Kd.R_mono HO_5.out (fun _ hk => hk.2)⟩, ⟨by (with_reducible repeat (first | apply Kd.R_alloc | apply Kd.R_drewN | apply Kd.R_drew)); exact HO_7.out⟩, ⟨by (with_reducible repeat (first | apply Kd.R_alloc | apply Kd.R_drewN | apply Kd.R_drew)); exact HO_8.out⟩, ⟨by (with_reducible repeat (first | refine blk_drewN ?_ _ | refine blk_drew ?_ | refine blk_alloc ?_ _)); exact BK150.out⟩, ⟨by repeat (first | (with_reducible first | exact HB.out | apply below_alloc | apply pw_below_drewN | apply below_drew1 | refine below_set ?_ GE150.out) | exact HB.out)⟩⟩
                                        · rw [if_neg c51] at H
                                          exact absurd H (by simp)
                                      · rw [if_neg c50] at H
                                        exact absurd H (by simp)
                                · rw [if_neg c37] at H
                                  exact absurd H (by simp)
                              · rw [if_neg c36] at H
                                exact absurd H (by simp)
                            · rw [if_neg c34] at H
                              exact absurd H (by simp)
                          · rw [if_neg c33] at H
                            exact absurd H (by simp)
                        · rw [if_neg c31] at H
                          have c31b0 : decide (x47_2 < (t152.length : Int)) = false := decide_eq_false c31
                          clear c31
                          have H' := Aside0.mk H
                          clear H
                          go_wp2
                          go_loopg [90] k2 (fun kq v90 w' => ∃ (x90_3 : Int), v90 = .int .i64 x90_3 ∧ Aside0 (tangramlaw11_RotNext.l1 kq t152 x7_2 (t152.length : Int) x90_3 a0_0 l0_1 = some r) ∧ Aside0 (kq ≤ k2) ∧ Aside0 (Kd.R (Kd.int .i64) 3 w' w.heap.size (fun k_ => some k_ ≠ (v158 : Value).ownBlock) (.slice Ao28 t152.length co28) t152) ∧ Aside0 (Kd.R (Kd.int .i64) 3 w' w.heap.size (fun k_ => some k_ ≠ ((.slice Ao28 t152.length co28) : Value).ownBlock) v158 x7_2) ∧ Aside0 (w'.heap[gb150]? = some (.cells #[.int .i64 a0_0, (.slice A0_1 l0_1.length c0_1)] 24 (0, 0))) ∧ Aside0 (Below w.heap.size w w'))
                          case atStart => exact ⟨(0), (by first | rfl | (simp; done) | (simp [*]; done)), H', ⟨Nat.le_refl _⟩, ⟨by (with_reducible repeat (first | apply Kd.R_alloc | apply Kd.R_drewN | apply Kd.R_drew)); exact HO_5.out⟩, ⟨by (with_reducible repeat (first | apply Kd.R_alloc | apply Kd.R_drewN | apply Kd.R_drew)); exact HO_7.out⟩, ⟨by (with_reducible repeat (first | refine blk_drewN ?_ _ | refine blk_drew ?_ | refine blk_alloc ?_ _)); exact BK150.out⟩, ⟨by repeat (first | (with_reducible first | exact HB.out | apply below_alloc | apply pw_below_drewN | apply below_drew1 | refine below_set ?_ GE150.out) | exact HB.out)⟩⟩
                          case round =>
                            clear H'
                            try clear c1
                            try clear p1
                            try clear q1
                            try clear hx1
                            try clear c2
                            try clear p2
                            try clear c3
                            try clear p3
                            try clear q3
                            try clear hx3
                            try clear hf3
                            try clear c4
                            try clear c5
                            try clear q5
                            try clear c6
                            try clear c6b0
                            try clear c6b1
                            try clear p6
                            try clear q6
                            try clear hx6
                            try clear hf6
                            try clear c11
                            try clear c12
                            try clear c13
                            try clear c14
                            try clear p16
                            try clear q16
                            try clear hx16
                            try clear p17
                            try clear q17
                            try clear hx17
                            try clear c20
                            try clear c21
                            try clear c21b0
                            try clear c21b1
                            try clear c22
                            try clear c22b0
                            try clear c22b1
                            try clear c23
                            try clear c23b0
                            try clear c23b1
                            try clear c24
                            try clear c24b0
                            try clear c24b1
                            try clear c31
                            try clear c31b0
                            try clear c33
                            try clear c33b0
                            try clear c34
                            try clear c34b0
                            try clear p35
                            try clear q35
                            try clear hx35
                            try clear hf35
                            try clear c36
                            try clear c36b0
                            try clear c37
                            try clear c37b0
                            try clear c38
                            try clear c38b0
                            try clear c44
                            try clear c44b0
                            try clear c50
                            try clear c50b0
                            try clear c51
                            try clear c51b0
                            try clear q52
                            try clear c53
                            try clear p60
                            try clear q60
                            try clear hx60
                            try clear hf60
                            try clear p64
                            try clear hcz10_0
                            try clear hcz10_1
                            try clear hcz14_0
                            try clear hcz14_1
                            try clear hcz17_0
                            try clear hcz17_1
                            try clear hcz18_0
                            try clear hcz18_1
                            try clear hcz25_0
                            try clear hcz25_1
                            try clear hcz39_0
                            try clear hcz39_1
                            try clear hcz45_0
                            try clear hcz45_1
                            try clear hcz54_0
                            try clear hcz54_1
                            try clear hcz61_0
                            try clear hcz61_1
                            try clear hfz10_0
                            try clear hfz10_1
                            try clear hfz14_0
                            try clear hfz14_1
                            try clear hfz17_0
                            try clear hfz17_1
                            try clear hfz18_0
                            try clear hfz18_1
                            try clear hfz25_0
                            try clear hfz25_1
                            try clear hfz39_0
                            try clear hfz39_1
                            try clear hfz45_0
                            try clear hfz45_1
                            try clear hfz54_0
                            try clear hfz54_1
                            try clear hfz61_0
                            try clear hfz61_1
                            try clear hx164_0
                            try clear hx166_0
                            try clear hx167_0
                            try clear hx168_0
                            try clear hx169_0
                            try clear hx170_0
                            try clear hx35_0
                            try clear hx60_0
                            try clear p164
                            try clear p166
                            try clear p167
                            try clear p168
                            try clear p169
                            try clear p170
                            try clear p2
                            try clear p35
                            try clear p6
                            try clear p60
                            try clear q164
                            try clear q166
                            try clear q167
                            try clear q168
                            try clear q169
                            try clear q170
                            try clear q35
                            try clear q60
                            obtain ⟨x90_3, rfl, HA, HK3, HO_5, HO_7, BK150, HB⟩ := hrel
                            cases gk with
                            | zero => exact absurd HA.out (by simp [tangramlaw11_RotNext.l1])
                            | succ k3 =>
                              have H := HA.out
                              clear HA
                              simp only [tangramlaw11_RotNext.l1] at H
                              by_cases c69 : x90_3 < (t152.length : Int)
                              · rw [if_pos c69] at H
                                have c69b0 : decide (x90_3 < (t152.length : Int)) = true := decide_eq_true c69
                                clear c69
                                replace H := Option.bind_eq_some_iff.mp H
                                obtain ⟨t172, A700, H⟩ := H
                                replace H : (if 0 ≤ x90_3 then (if x90_3 < (t152.length : Int) then (tangramlaw11_RotNext.l2 k3 t152 x7_2 x90_3 t172 0 (rd t152 x90_3) (t152.length : Int) x90_3 a0_0 l0_1) else (none)) else (none)) = some r := H
                                have A70 := Aside0.mk A700
                                clear A700
                                by_cases c71 : 0 ≤ x90_3
                                · rw [if_pos c71] at H
                                  have c71b0 : decide (0 ≤ x90_3) = true := decide_eq_true c71
                                  clear c71
                                  by_cases c72 : x90_3 < (t152.length : Int)
                                  · rw [if_pos c72] at H
                                    have c72b0 : decide (x90_3 < (t152.length : Int)) = true := decide_eq_true c72
                                    clear c72
                                    have H' := Aside0.mk H
                                    clear H
                                    have hcz73_0 : wr.cell? ⟨gb150, 0, none⟩ = some (.int .i64 a0_0) := (blk_cell BK150.out 0).trans rfl
                                    have hcz73_1 : wr.cell? ⟨gb150, 1, none⟩ = some (.slice A0_1 l0_1.length c0_1) := (blk_cell BK150.out 1).trans rfl
                                    have hfz73_0 := blk_frozen BK150.out 0
                                    have hfz73_1 := blk_frozen BK150.out 1
                                    go_wp2_with (first | ((with_reducible refine gate_callee (f := 14) rfl ?_); refine goesL_ (some 95) rfl rfl Try.func14 (by kernel_rfl) rfl #[.agg #[.int .i64 a0_0, .slice A0_1 l0_1.length c0_1], .int .i64 x90_3] rfl (by (try simp only [List.map_toArray, List.map_cons, List.map_nil]); first | done | rfl | (simp only [List.length_drop, List.length_take]; rfl)) ?_; (with_reducible refine (tangramref11_From.calls a0_0 _ _ l0_1 x90_3 t172 _ ?side1 ?side2 A70.out).mono ?_); (case side1 => repeat (first | exact (Kd.C_below HR0_1.out HB.out) | (with_reducible refine Kd.C_alloc ?_ _) | (with_reducible refine Kd.C_drewN ?_ _) | (with_reducible refine Kd.C_drew ?_))); (case side2 => exact HC0_1.out); rintro e w74 ⟨rfl, hb⟩; refine ⟨_, rfl, ?_⟩; have n0_ := Aside0.mk (Kd.R_below (by (with_reducible repeat (first | apply Kd.R_alloc | apply Kd.R_drewN | apply Kd.R_drew)); exact HO_5.out) hb); have n1_ := Aside0.mk (Kd.R_below (by (with_reducible repeat (first | apply Kd.R_alloc | apply Kd.R_drewN | apply Kd.R_drew)); exact HO_7.out) hb); have n2_ := Aside0.mk (blk_below (g := gb150) (o := .cells #[.int .i64 a0_0, .slice A0_1 l0_1.length c0_1] 24 (0, 0)) (by (with_reducible repeat (first | refine blk_drewN ?_ _ | refine blk_drew ?_ | refine blk_alloc ?_ _)); exact BK150.out) hb); have n3_ := Aside0.mk (below_step (by repeat (first | (with_reducible first | exact HB.out | apply below_alloc | apply pw_below_drewN | apply below_drew1 | refine below_set ?_ GE150.out) | exact HB.out)) hb); clear HO_5; clear HO_7; clear BK150; clear HB; have HO_5 := n0_; have HO_7 := n1_; have BK150 := n2_; have HB := n3_; clear n0_ n1_ n2_ n3_; (try clear hb); (try clear hb2); (try clear hk); (try clear hi); have p173 : 0 ≤ (x90_3 : Int) := of_decide_eq_true (by first | (with_reducible assumption) | assumption); have q173 : x90_3 < (t152.length : Int) := of_decide_eq_true (by first | (with_reducible assumption) | assumption); obtain ⟨ad173, e173, hx173_0⟩ := Kd.at_int (Kd.R_reads' HO_5.out).2.2 x90_3 p173 q173; cases e173; replace p173 := eq_true p173; replace q173 := eq_true q173))
                                    go_loopg [12, 13] k3 (fun kq v12 v13 w' => ∃ (x12_4 : Int) (x13_4 : Int), v12 = .int .i64 x12_4 ∧ v13 = .int .i64 x13_4 ∧ Aside0 (tangramlaw11_RotNext.l2 kq t152 x7_2 x90_3 t172 x12_4 x13_4 (t152.length : Int) x90_3 a0_0 l0_1 = some r) ∧ Aside0 (kq ≤ k3) ∧ Aside0 (Kd.R (Kd.int .i64) 3 w' w.heap.size (fun k_ => some k_ ≠ (v158 : Value).ownBlock) (.slice (some ad173) t152.length co28) t152) ∧ Aside0 (Kd.R (Kd.int .i64) 3 w' w.heap.size (fun k_ => some k_ ≠ ((.slice (some ad173) t152.length co28) : Value).ownBlock) v158 x7_2) ∧ Aside0 (w'.heap[gb150]? = some (.cells #[.int .i64 a0_0, (.slice A0_1 l0_1.length c0_1)] 24 (0, 0))) ∧ Aside0 (Below w.heap.size w w'))
                                    case atStart => exact ⟨(0), (rd t152 x90_3), (by first | rfl | (simp; done) | (simp [*]; done)), (by first | rfl | (simp; done) | (simp [*]; done)), H', ⟨Nat.le_refl _⟩, ⟨by (with_reducible repeat (first | apply Kd.R_alloc | apply Kd.R_drewN | apply Kd.R_drew)); exact HO_5.out⟩, ⟨by (with_reducible repeat (first | apply Kd.R_alloc | apply Kd.R_drewN | apply Kd.R_drew)); exact HO_7.out⟩, ⟨by (with_reducible repeat (first | refine blk_drewN ?_ _ | refine blk_drew ?_ | refine blk_alloc ?_ _)); exact BK150.out⟩, ⟨by repeat (first | (with_reducible first | exact HB.out | apply below_alloc | apply pw_below_drewN | apply below_drew1 | refine below_set ?_ GE150.out) | exact HB.out)⟩⟩
                                    case round =>
                                      clear H'
                                      try clear c1
                                      try clear p1
                                      try clear q1
                                      try clear hx1
                                      try clear c2
                                      try clear p2
                                      try clear c3
                                      try clear p3
                                      try clear q3
                                      try clear hx3
                                      try clear hf3
                                      try clear c4
                                      try clear c5
                                      try clear q5
                                      try clear c6
                                      try clear c6b0
                                      try clear c6b1
                                      try clear p6
                                      try clear q6
                                      try clear hx6
                                      try clear hf6
                                      try clear c7
                                      try clear c11
                                      try clear c12
                                      try clear c13
                                      try clear c14
                                      try clear p16
                                      try clear q16
                                      try clear hx16
                                      try clear p17
                                      try clear q17
                                      try clear hx17
                                      try clear c20
                                      try clear c21
                                      try clear c21b0
                                      try clear c21b1
                                      try clear c22
                                      try clear c22b0
                                      try clear c22b1
                                      try clear c23
                                      try clear c23b0
                                      try clear c23b1
                                      try clear c24
                                      try clear c24b0
                                      try clear c24b1
                                      try clear c31
                                      try clear c31b0
                                      try clear c33
                                      try clear c33b0
                                      try clear c34
                                      try clear c34b0
                                      try clear p35
                                      try clear q35
                                      try clear hx35
                                      try clear hf35
                                      try clear c36
                                      try clear c36b0
                                      try clear c37
                                      try clear c37b0
                                      try clear c38
                                      try clear c38b0
                                      try clear c44
                                      try clear c44b0
                                      try clear c50
                                      try clear c50b0
                                      try clear c51
                                      try clear c51b0
                                      try clear q52
                                      try clear c53
                                      try clear p60
                                      try clear q60
                                      try clear hx60
                                      try clear hf60
                                      try clear p64
                                      try clear c69
                                      try clear c69b0
                                      try clear c71
                                      try clear c71b0
                                      try clear c72
                                      try clear c72b0
                                      try clear hcz10_0
                                      try clear hcz10_1
                                      try clear hcz14_0
                                      try clear hcz14_1
                                      try clear hcz17_0
                                      try clear hcz17_1
                                      try clear hcz18_0
                                      try clear hcz18_1
                                      try clear hcz25_0
                                      try clear hcz25_1
                                      try clear hcz39_0
                                      try clear hcz39_1
                                      try clear hcz45_0
                                      try clear hcz45_1
                                      try clear hcz54_0
                                      try clear hcz54_1
                                      try clear hcz61_0
                                      try clear hcz61_1
                                      try clear hcz73_0
                                      try clear hcz73_1
                                      try clear hfz10_0
                                      try clear hfz10_1
                                      try clear hfz14_0
                                      try clear hfz14_1
                                      try clear hfz17_0
                                      try clear hfz17_1
                                      try clear hfz18_0
                                      try clear hfz18_1
                                      try clear hfz25_0
                                      try clear hfz25_1
                                      try clear hfz39_0
                                      try clear hfz39_1
                                      try clear hfz45_0
                                      try clear hfz45_1
                                      try clear hfz54_0
                                      try clear hfz54_1
                                      try clear hfz61_0
                                      try clear hfz61_1
                                      try clear hfz73_0
                                      try clear hfz73_1
                                      try clear hx164_0
                                      try clear hx166_0
                                      try clear hx167_0
                                      try clear hx168_0
                                      try clear hx169_0
                                      try clear hx170_0
                                      try clear hx173_0
                                      try clear hx35_0
                                      try clear hx60_0
                                      try clear p1
                                      try clear p16
                                      try clear p164
                                      try clear p166
                                      try clear p167
                                      try clear p168
                                      try clear p169
                                      try clear p17
                                      try clear p170
                                      try clear p173
                                      try clear p2
                                      try clear p3
                                      try clear p35
                                      try clear p6
                                      try clear p60
                                      try clear p64
                                      try clear q1
                                      try clear q16
                                      try clear q164
                                      try clear q166
                                      try clear q167
                                      try clear q168
                                      try clear q169
                                      try clear q17
                                      try clear q170
                                      try clear q173
                                      try clear q3
                                      try clear q35
                                      try clear q5
                                      try clear q52
                                      try clear q6
                                      try clear q60
                                      obtain ⟨x12_4, x13_4, rfl, rfl, HA, HK4, HO_5, HO_7, BK150, HB⟩ := hrel
                                      cases gk with
                                      | zero => exact absurd HA.out (by simp [tangramlaw11_RotNext.l2])
                                      | succ k4 =>
                                        have H := HA.out
                                        clear HA
                                        simp only [tangramlaw11_RotNext.l2] at H
                                        have HC75 := Aside0.mk H
                                        clear H
                                        go_upto_region 25 with (fail)
                                        go_cut [118] (fun v118 wc => ∃ (kq : Nat) (x118_74 : Bool), v118 = .bool x118_74 ∧ Aside0 (tangramlaw11_RotNext.j4 kq t152 x7_2 x90_3 t172 (wrap64 (x12_4 + 1)) x13_4 (t152.length : Int) x90_3 x118_74 a0_0 l0_1 = some r) ∧ Aside0 (kq ≤ k4) ∧ Aside0 (Kd.R (Kd.int .i64) 3 wc w.heap.size (fun k_ => some k_ ≠ (v158 : Value).ownBlock) (.slice (some ad173) t152.length co28) t152) ∧ Aside0 (Kd.R (Kd.int .i64) 3 wc w.heap.size (fun k_ => some k_ ≠ ((.slice (some ad173) t152.length co28) : Value).ownBlock) v158 x7_2) ∧ Aside0 (wc.heap[gb150]? = some (.cells #[.int .i64 a0_0, (.slice A0_1 l0_1.length c0_1)] 24 (0, 0))) ∧ Aside0 (Below w.heap.size w wc))
                                        case first =>
                                          have H := HC75.out
                                          clear HC75
                                          replace H := Option.bind_eq_some_iff.mp H
                                          obtain ⟨t174, A760, H⟩ := H
                                          replace H : (if t174 = t172 then (if 0 ≤ t172 then (if t172 < (x7_2.length : Int) then (tangramlaw11_RotNext.j4 k4 t152 x7_2 x90_3 t172 (wrap64 (x12_4 + 1)) x13_4 (t152.length : Int) x90_3 (decide ((wrap64 (x12_4 + 1)) > (rd x7_2 t172))) a0_0 l0_1) else (none)) else (none)) else (tangramlaw11_RotNext.j4 k4 t152 x7_2 x90_3 t172 (wrap64 (x12_4 + 1)) x13_4 (t152.length : Int) x90_3 true a0_0 l0_1)) = some r := H
                                          have A76 := Aside0.mk A760
                                          clear A760
                                          by_cases c77 : t174 = t172
                                          · rw [if_pos c77] at H
                                            have c77b0 : (t174 == t172) = true := beq_iff_eq.mpr c77
                                            have c77b1 : (t174 != t172) = false := bne_eq_false_iff_eq.mpr c77
                                            clear c77
                                            (first | rw [c77b0] | (simp only [i64_w, i32_w]; rw [c77b0]) | skip)
                                            by_cases c78 : 0 ≤ t172
                                            · rw [if_pos c78] at H
                                              have c78b0 : decide (0 ≤ t172) = true := decide_eq_true c78
                                              clear c78
                                              by_cases c79 : t172 < (x7_2.length : Int)
                                              · rw [if_pos c79] at H
                                                have c79b0 : decide (t172 < (x7_2.length : Int)) = true := decide_eq_true c79
                                                clear c79
                                                have H' := Aside0.mk H
                                                clear H
                                                have hcz80_0 : wr.cell? ⟨gb150, 0, none⟩ = some (.int .i64 a0_0) := (blk_cell BK150.out 0).trans rfl
                                                have hcz80_1 : wr.cell? ⟨gb150, 1, none⟩ = some (.slice A0_1 l0_1.length c0_1) := (blk_cell BK150.out 1).trans rfl
                                                have hfz80_0 := blk_frozen BK150.out 0
                                                have hfz80_1 := blk_frozen BK150.out 1
                                                go_wp2_with (first | ((with_reducible refine gate_callee (f := 14) rfl ?_); refine goesL_ (some 108) rfl rfl Try.func14 (by kernel_rfl) rfl #[.agg #[.int .i64 a0_0, .slice A0_1 l0_1.length c0_1], .int .i64 x13_4] rfl (by (try simp only [List.map_toArray, List.map_cons, List.map_nil]); first | done | rfl | (simp only [List.length_drop, List.length_take]; rfl)) ?_; (with_reducible refine (tangramref11_From.calls a0_0 _ _ l0_1 x13_4 t174 _ ?side1 ?side2 A76.out).mono ?_); (case side1 => repeat (first | exact (Kd.C_below HR0_1.out HB.out) | (with_reducible refine Kd.C_alloc ?_ _) | (with_reducible refine Kd.C_drewN ?_ _) | (with_reducible refine Kd.C_drew ?_))); (case side2 => exact HC0_1.out); rintro e w81 ⟨rfl, hb⟩; refine ⟨_, rfl, ?_⟩; have n0_ := Aside0.mk (Kd.R_below (by (with_reducible repeat (first | apply Kd.R_alloc | apply Kd.R_drewN | apply Kd.R_drew)); exact HO_5.out) hb); have n1_ := Aside0.mk (Kd.R_below (by (with_reducible repeat (first | apply Kd.R_alloc | apply Kd.R_drewN | apply Kd.R_drew)); exact HO_7.out) hb); have n2_ := Aside0.mk (blk_below (g := gb150) (o := .cells #[.int .i64 a0_0, .slice A0_1 l0_1.length c0_1] 24 (0, 0)) (by (with_reducible repeat (first | refine blk_drewN ?_ _ | refine blk_drew ?_ | refine blk_alloc ?_ _)); exact BK150.out) hb); have n3_ := Aside0.mk (below_step (by repeat (first | (with_reducible first | exact HB.out | apply below_alloc | apply pw_below_drewN | apply below_drew1 | refine below_set ?_ GE150.out) | exact HB.out)) hb); clear HO_5; clear HO_7; clear BK150; clear HB; have HO_5 := n0_; have HO_7 := n1_; have BK150 := n2_; have HB := n3_; clear n0_ n1_ n2_ n3_; (try clear hb); (try clear hb2); (try clear hk); (try clear hi); obtain ⟨Ao82, co82, eo82⟩ := Kd.R_slice HO_7.out; subst eo82; have p175 : 0 ≤ (t172 : Int) := of_decide_eq_true (by first | (with_reducible assumption) | assumption); have q175 : t172 < (x7_2.length : Int) := of_decide_eq_true (by first | (with_reducible assumption) | assumption); obtain ⟨ad175, e175, hx175_0⟩ := Kd.at_int (Kd.R_reads' HO_7.out).2.2 t172 p175 q175; cases e175; replace p175 := eq_true p175; replace q175 := eq_true q175))
                                                go_meet
                                                case rel => exact ⟨_, (decide ((wrap64 (x12_4 + 1)) > (rd x7_2 t172))), (by first | rfl | (simp; done) | (simp [*]; done)), H', ⟨by have := HJ6.out; have := HK2.out; have := HK3.out; have := HK4.out; first | omega | exact Nat.le_refl _⟩, ⟨by (with_reducible repeat (first | apply Kd.R_alloc | apply Kd.R_drewN | apply Kd.R_drew)); exact HO_5.out⟩, ⟨by (with_reducible repeat (first | apply Kd.R_alloc | apply Kd.R_drewN | apply Kd.R_drew)); exact HO_7.out⟩, ⟨by (with_reducible repeat (first | refine blk_drewN ?_ _ | refine blk_drew ?_ | refine blk_alloc ?_ _)); exact BK150.out⟩, ⟨by repeat (first | (with_reducible first | exact HB.out | apply below_alloc | apply pw_below_drewN | apply below_drew1 | refine below_set ?_ GE150.out) | exact HB.out)⟩⟩
                                              · rw [if_neg c79] at H
                                                exact absurd H (by simp)
                                            · rw [if_neg c78] at H
                                              exact absurd H (by simp)
                                          · rw [if_neg c77] at H
                                            have c77b0 : (t174 == t172) = false := beq_eq_false_iff_ne.mpr c77
                                            have c77b1 : (t174 != t172) = true := bne_iff_ne.mpr c77
                                            (first | rw [c77b0] | (simp only [i64_w, i32_w]; rw [c77b0]) | skip)
                                            have H' := Aside0.mk H
                                            clear H
                                            have hcz83_0 : wr.cell? ⟨gb150, 0, none⟩ = some (.int .i64 a0_0) := (blk_cell BK150.out 0).trans rfl
                                            have hcz83_1 : wr.cell? ⟨gb150, 1, none⟩ = some (.slice A0_1 l0_1.length c0_1) := (blk_cell BK150.out 1).trans rfl
                                            have hfz83_0 := blk_frozen BK150.out 0
                                            have hfz83_1 := blk_frozen BK150.out 1
                                            go_wp2_with (first | ((with_reducible refine gate_callee (f := 14) rfl ?_); refine goesL_ (some 108) rfl rfl Try.func14 (by kernel_rfl) rfl #[.agg #[.int .i64 a0_0, .slice A0_1 l0_1.length c0_1], .int .i64 x13_4] rfl (by (try simp only [List.map_toArray, List.map_cons, List.map_nil]); first | done | rfl | (simp only [List.length_drop, List.length_take]; rfl)) ?_; (with_reducible refine (tangramref11_From.calls a0_0 _ _ l0_1 x13_4 t174 _ ?side1 ?side2 A76.out).mono ?_); (case side1 => repeat (first | exact (Kd.C_below HR0_1.out HB.out) | (with_reducible refine Kd.C_alloc ?_ _) | (with_reducible refine Kd.C_drewN ?_ _) | (with_reducible refine Kd.C_drew ?_))); (case side2 => exact HC0_1.out); rintro e w84 ⟨rfl, hb⟩; refine ⟨_, rfl, ?_⟩; have n0_ := Aside0.mk (Kd.R_below (by (with_reducible repeat (first | apply Kd.R_alloc | apply Kd.R_drewN | apply Kd.R_drew)); exact HO_5.out) hb); have n1_ := Aside0.mk (Kd.R_below (by (with_reducible repeat (first | apply Kd.R_alloc | apply Kd.R_drewN | apply Kd.R_drew)); exact HO_7.out) hb); have n2_ := Aside0.mk (blk_below (g := gb150) (o := .cells #[.int .i64 a0_0, .slice A0_1 l0_1.length c0_1] 24 (0, 0)) (by (with_reducible repeat (first | refine blk_drewN ?_ _ | refine blk_drew ?_ | refine blk_alloc ?_ _)); exact BK150.out) hb); have n3_ := Aside0.mk (below_step (by repeat (first | (with_reducible first | exact HB.out | apply below_alloc | apply pw_below_drewN | apply below_drew1 | refine below_set ?_ GE150.out) | exact HB.out)) hb); clear HO_5; clear HO_7; clear BK150; clear HB; have HO_5 := n0_; have HO_7 := n1_; have BK150 := n2_; have HB := n3_; clear n0_ n1_ n2_ n3_; (try clear hb); (try clear hb2); (try clear hk); (try clear hi)))
                                            go_meet
                                            case rel => exact ⟨_, (true), (by first | rfl | (simp; done) | (simp [*]; done)), H', ⟨by have := HJ6.out; have := HK2.out; have := HK3.out; have := HK4.out; first | omega | exact Nat.le_refl _⟩, ⟨by (with_reducible repeat (first | apply Kd.R_alloc | apply Kd.R_drewN | apply Kd.R_drew)); exact HO_5.out⟩, ⟨by (with_reducible repeat (first | apply Kd.R_alloc | apply Kd.R_drewN | apply Kd.R_drew)); exact HO_7.out⟩, ⟨by (with_reducible repeat (first | refine blk_drewN ?_ _ | refine blk_drew ?_ | refine blk_alloc ?_ _)); exact BK150.out⟩, ⟨by repeat (first | (with_reducible first | exact HB.out | apply below_alloc | apply pw_below_drewN | apply below_drew1 | refine below_set ?_ GE150.out) | exact HB.out)⟩⟩
                                        case rest =>
                                          clear HC75
                                          try clear c1
                                          try clear p1
                                          try clear q1
                                          try clear hx1
                                          try clear c2
                                          try clear p2
                                          try clear c3
                                          try clear p3
                                          try clear q3
                                          try clear hx3
                                          try clear hf3
                                          try clear c4
                                          try clear c5
                                          try clear q5
                                          try clear c6
                                          try clear c6b0
                                          try clear c6b1
                                          try clear p6
                                          try clear q6
                                          try clear hx6
                                          try clear hf6
                                          try clear c7
                                          try clear c11
                                          try clear c12
                                          try clear c13
                                          try clear c14
                                          try clear p16
                                          try clear q16
                                          try clear hx16
                                          try clear p17
                                          try clear q17
                                          try clear hx17
                                          try clear c20
                                          try clear c21
                                          try clear c21b0
                                          try clear c21b1
                                          try clear c22
                                          try clear c22b0
                                          try clear c22b1
                                          try clear c23
                                          try clear c23b0
                                          try clear c23b1
                                          try clear c24
                                          try clear c24b0
                                          try clear c24b1
                                          try clear c31
                                          try clear c31b0
                                          try clear c33
                                          try clear c33b0
                                          try clear c34
                                          try clear c34b0
                                          try clear p35
                                          try clear q35
                                          try clear hx35
                                          try clear hf35
                                          try clear c36
                                          try clear c36b0
                                          try clear c37
                                          try clear c37b0
                                          try clear c38
                                          try clear c38b0
                                          try clear c44
                                          try clear c44b0
                                          try clear c50
                                          try clear c50b0
                                          try clear c51
                                          try clear c51b0
                                          try clear q52
                                          try clear c53
                                          try clear p60
                                          try clear q60
                                          try clear hx60
                                          try clear hf60
                                          try clear p64
                                          try clear c69
                                          try clear c69b0
                                          try clear c71
                                          try clear c71b0
                                          try clear c72
                                          try clear c72b0
                                          try clear c77
                                          try clear c77b0
                                          try clear c77b1
                                          try clear c78
                                          try clear c78b0
                                          try clear c79
                                          try clear c79b0
                                          try clear hcz10_0
                                          try clear hcz10_1
                                          try clear hcz14_0
                                          try clear hcz14_1
                                          try clear hcz17_0
                                          try clear hcz17_1
                                          try clear hcz18_0
                                          try clear hcz18_1
                                          try clear hcz25_0
                                          try clear hcz25_1
                                          try clear hcz39_0
                                          try clear hcz39_1
                                          try clear hcz45_0
                                          try clear hcz45_1
                                          try clear hcz54_0
                                          try clear hcz54_1
                                          try clear hcz61_0
                                          try clear hcz61_1
                                          try clear hcz73_0
                                          try clear hcz73_1
                                          try clear hcz80_0
                                          try clear hcz80_1
                                          try clear hcz83_0
                                          try clear hcz83_1
                                          try clear hfz10_0
                                          try clear hfz10_1
                                          try clear hfz14_0
                                          try clear hfz14_1
                                          try clear hfz17_0
                                          try clear hfz17_1
                                          try clear hfz18_0
                                          try clear hfz18_1
                                          try clear hfz25_0
                                          try clear hfz25_1
                                          try clear hfz39_0
                                          try clear hfz39_1
                                          try clear hfz45_0
                                          try clear hfz45_1
                                          try clear hfz54_0
                                          try clear hfz54_1
                                          try clear hfz61_0
                                          try clear hfz61_1
                                          try clear hfz73_0
                                          try clear hfz73_1
                                          try clear hfz80_0
                                          try clear hfz80_1
                                          try clear hfz83_0
                                          try clear hfz83_1
                                          try clear hx164_0
                                          try clear hx166_0
                                          try clear hx167_0
                                          try clear hx168_0
                                          try clear hx169_0
                                          try clear hx170_0
                                          try clear hx173_0
                                          try clear hx175_0
                                          try clear hx35_0
                                          try clear hx60_0
                                          try clear p1
                                          try clear p16
                                          try clear p164
                                          try clear p166
                                          try clear p167
                                          try clear p168
                                          try clear p169
                                          try clear p17
                                          try clear p170
                                          try clear p173
                                          try clear p175
                                          try clear p2
                                          try clear p3
                                          try clear p35
                                          try clear p6
                                          try clear p60
                                          try clear p64
                                          try clear q1
                                          try clear q16
                                          try clear q164
                                          try clear q166
                                          try clear q167
                                          try clear q168
                                          try clear q169
                                          try clear q17
                                          try clear q170
                                          try clear q173
                                          try clear q175
                                          try clear q3
                                          try clear q35
                                          try clear q5
                                          try clear q52
                                          try clear q6
                                          try clear q60
                                          obtain ⟨kq, x118_74, rfl, HA, HJ74, HO_5, HO_7, BK150, HB⟩ := hcut
                                          cases kq with
                                          | zero => exact absurd HA.out (by simp [tangramlaw11_RotNext.j4])
                                          | succ kj74 =>
                                            have H := HA.out
                                            clear HA
                                            simp only [tangramlaw11_RotNext.j4] at H
                                            by_cases c85 : x118_74 = true
                                            · subst c85
                                              have H1 : (some false) = some r := by rw [if_pos rfl] at H; exact H
                                              clear H
                                              have H := H1
                                              clear H1
                                              obtain rfl := Option.some.inj H
                                              go_wp2
                                              go_ret
                                              exact ⟨by first | rfl | (simp [errW_none, errW_some] <;> rfl) | (simp [*, errW_none, errW_some] <;> rfl), by repeat (first | (with_reducible first | exact HB.out | apply below_alloc | apply pw_below_drewN | apply below_drew1 | refine below_set ?_ GE150.out) | exact HB.out)⟩
                                            · replace c85 := Bool.eq_false_iff.mpr c85
                                              subst c85
                                              have H1 : (if x13_4 = x90_3 then (if 0 ≤ t172 then (if t172 < (x7_2.length : Int) then (if (wrap64 (x12_4 + 1)) = (rd x7_2 t172) then (tangramlaw11_RotNext.l1 kj74 t152 x7_2 (t152.length : Int) (wrap64 (x90_3 + 1)) a0_0 l0_1) else (some false)) else (none)) else (none)) else (if 0 ≤ x13_4 then (if x13_4 < (t152.length : Int) then (tangramlaw11_RotNext.l2 kj74 t152 x7_2 x90_3 t172 (wrap64 (x12_4 + 1)) (rd t152 x13_4) (t152.length : Int) x90_3 a0_0 l0_1) else (none)) else (none))) = some r := by rw [if_neg (show ¬ (false = true) by decide)] at H; exact H
                                              clear H
                                              have H := H1
                                              clear H1
                                              by_cases c86 : x13_4 = x90_3
                                              · rw [if_pos c86] at H
                                                have c86b0 : (x13_4 == x90_3) = true := beq_iff_eq.mpr c86
                                                have c86b1 : (x13_4 != x90_3) = false := bne_eq_false_iff_eq.mpr c86
                                                clear c86
                                                by_cases c87 : 0 ≤ t172
                                                · rw [if_pos c87] at H
                                                  have c87b0 : decide (0 ≤ t172) = true := decide_eq_true c87
                                                  clear c87
                                                  by_cases c88 : t172 < (x7_2.length : Int)
                                                  · rw [if_pos c88] at H
                                                    have c88b0 : decide (t172 < (x7_2.length : Int)) = true := decide_eq_true c88
                                                    clear c88
                                                    by_cases c89 : (wrap64 (x12_4 + 1)) = (rd x7_2 t172)
                                                    · rw [if_pos c89] at H
                                                      have c89b0 : ((wrap64 (x12_4 + 1)) == (rd x7_2 t172)) = true := beq_iff_eq.mpr c89
                                                      have c89b1 : ((wrap64 (x12_4 + 1)) != (rd x7_2 t172)) = false := bne_eq_false_iff_eq.mpr c89
                                                      clear c89
                                                      have H' := Aside0.mk H
                                                      clear H
                                                      obtain ⟨Ao90, co90, eo90⟩ := Kd.R_slice HO_7.out
                                                      subst eo90
                                                      have p176 : 0 ≤ (t172 : Int) := of_decide_eq_true (by first | (with_reducible assumption) | assumption)
                                                      have q176 : t172 < (x7_2.length : Int) := of_decide_eq_true (by first | (with_reducible assumption) | assumption)
                                                      obtain ⟨ad176, e176, hx176_0⟩ := Kd.at_int (Kd.R_reads' HO_7.out).2.2 t172 p176 q176
                                                      cases e176
                                                      replace p176 := eq_true p176
                                                      replace q176 := eq_true q176
                                                      go_wp2
                                                      go_roundg kj74
                                                      case measure => have := HJ6.out; have := HK2.out; have := HK3.out; have := HK4.out; have := HJ74.out; omega
                                                      case rel => exact ⟨(wrap64 (x90_3 + 1)), (by first | rfl | (simp; done) | (simp [*]; done)), H', ⟨by have := HJ6.out; have := HK2.out; have := HK3.out; have := HK4.out; have := HJ74.out; omega⟩, ⟨by (with_reducible repeat (first | apply Kd.R_alloc | apply Kd.R_drewN | apply Kd.R_drew)); exact HO_5.out⟩, ⟨by (with_reducible repeat (first | apply Kd.R_alloc | apply Kd.R_drewN | apply Kd.R_drew)); exact HO_7.out⟩, ⟨by (with_reducible repeat (first | refine blk_drewN ?_ _ | refine blk_drew ?_ | refine blk_alloc ?_ _)); exact BK150.out⟩, ⟨by repeat (first | (with_reducible first | exact HB.out | apply below_alloc | apply pw_below_drewN | apply below_drew1 | refine below_set ?_ GE150.out) | exact HB.out)⟩⟩
                                                    · rw [if_neg c89] at H
                                                      have c89b0 : ((wrap64 (x12_4 + 1)) == (rd x7_2 t172)) = false := beq_eq_false_iff_ne.mpr c89
                                                      have c89b1 : ((wrap64 (x12_4 + 1)) != (rd x7_2 t172)) = true := bne_iff_ne.mpr c89
                                                      obtain rfl := Option.some.inj H
                                                      obtain ⟨Ao91, co91, eo91⟩ := Kd.R_slice HO_7.out
                                                      subst eo91
                                                      have p176 : 0 ≤ (t172 : Int) := of_decide_eq_true (by first | (with_reducible assumption) | assumption)
                                                      have q176 : t172 < (x7_2.length : Int) := of_decide_eq_true (by first | (with_reducible assumption) | assumption)
                                                      obtain ⟨ad176, e176, hx176_0⟩ := Kd.at_int (Kd.R_reads' HO_7.out).2.2 t172 p176 q176
                                                      cases e176
                                                      replace p176 := eq_true p176
                                                      replace q176 := eq_true q176
                                                      go_wp2
                                                      go_ret
                                                      exact ⟨by first | rfl | (simp [errW_none, errW_some] <;> rfl) | (simp [*, errW_none, errW_some] <;> rfl), by repeat (first | (with_reducible first | exact HB.out | apply below_alloc | apply pw_below_drewN | apply below_drew1 | refine below_set ?_ GE150.out) | exact HB.out)⟩
                                                  · rw [if_neg c88] at H
                                                    exact absurd H (by simp)
                                                · rw [if_neg c87] at H
                                                  exact absurd H (by simp)
                                              · rw [if_neg c86] at H
                                                have c86b0 : (x13_4 == x90_3) = false := beq_eq_false_iff_ne.mpr c86
                                                have c86b1 : (x13_4 != x90_3) = true := bne_iff_ne.mpr c86
                                                by_cases c92 : 0 ≤ x13_4
                                                · rw [if_pos c92] at H
                                                  have c92b0 : decide (0 ≤ x13_4) = true := decide_eq_true c92
                                                  clear c92
                                                  by_cases c93 : x13_4 < (t152.length : Int)
                                                  · rw [if_pos c93] at H
                                                    have c93b0 : decide (x13_4 < (t152.length : Int)) = true := decide_eq_true c93
                                                    clear c93
                                                    have H' := Aside0.mk H
                                                    clear H
                                                    have p177 : 0 ≤ (x13_4 : Int) := of_decide_eq_true (by first | (with_reducible assumption) | assumption)
                                                    have q177 : x13_4 < (t152.length : Int) := of_decide_eq_true (by first | (with_reducible assumption) | assumption)
                                                    obtain ⟨ad177, e177, hx177_0⟩ := Kd.at_int (Kd.R_reads' HO_5.out).2.2 x13_4 p177 q177
                                                    obtain rfl : ad173 = ad177 := (by injection e177)
                                                    replace p177 := eq_true p177
                                                    replace q177 := eq_true q177
                                                    go_wp2
                                                    go_roundg kj74
                                                    case measure => have := HJ6.out; have := HK2.out; have := HK3.out; have := HK4.out; have := HJ74.out; omega
                                                    case rel => exact ⟨((wrap64 (x12_4 + 1))), (rd t152 x13_4), (by first | rfl | (simp; done) | (simp [*]; done)), (by first | rfl | (simp; done) | (simp [*]; done)), H', ⟨by have := HJ6.out; have := HK2.out; have := HK3.out; have := HK4.out; have := HJ74.out; omega⟩, ⟨by (with_reducible repeat (first | apply Kd.R_alloc | apply Kd.R_drewN | apply Kd.R_drew)); exact HO_5.out⟩, ⟨by (with_reducible repeat (first | apply Kd.R_alloc | apply Kd.R_drewN | apply Kd.R_drew)); exact HO_7.out⟩, ⟨by (with_reducible repeat (first | refine blk_drewN ?_ _ | refine blk_drew ?_ | refine blk_alloc ?_ _)); exact BK150.out⟩, ⟨by repeat (first | (with_reducible first | exact HB.out | apply below_alloc | apply pw_below_drewN | apply below_drew1 | refine below_set ?_ GE150.out) | exact HB.out)⟩⟩
                                                  · rw [if_neg c93] at H
                                                    exact absurd H (by simp)
                                                · rw [if_neg c92] at H
                                                  exact absurd H (by simp)
                                  · rw [if_neg c72] at H
                                    exact absurd H (by simp)
                                · rw [if_neg c71] at H
                                  exact absurd H (by simp)
                              · rw [if_neg c69] at H
                                have c69b0 : decide (x90_3 < (t152.length : Int)) = false := decide_eq_false c69
                                clear c69
                                obtain rfl := Option.some.inj H
                                go_wp2
                                go_ret
                                exact ⟨by first | rfl | (simp [errW_none, errW_some] <;> rfl) | (simp [*, errW_none, errW_some] <;> rfl), by repeat (first | (with_reducible first | exact HB.out | apply below_alloc | apply pw_below_drewN | apply below_drew1 | refine below_set ?_ GE150.out) | exact HB.out)⟩
                  · rw [if_neg c24] at H
                    exact absurd H (by simp)
                · rw [if_neg c23] at H
                  exact absurd H (by simp)
              · rw [if_neg c22] at H
                exact absurd H (by simp)
            · rw [if_neg c21] at H
              exact absurd H (by simp)
    · rw [if_neg c6] at H
      have c6b0 : (t155 == 0) = false := beq_eq_false_iff_ne.mpr c6
      have c6b1 : (t155 != 0) = true := bne_iff_ne.mpr c6
      obtain rfl := Option.some.inj H
      go_enter Try.func3, Try.ntmps3
      go_wp2_with (first | ((with_reducible refine gate_dst (N := 2) rfl ?_); (try (refine gate_guard (by rfl) ?_; dsimp only)); refine box_event ?hg (N := 2) ?hd (cs := #[.int .i64 a0_0, .slice A0_1 l0_1.length c0_1]) (t := 24) ?hr ?_; (case hd => rfl); (case hg => rfl); (case hr => first | (go_simp; done) | (go_simp; rfl)); intro gb150 hg w94 hbox hb; have n0_ := Aside0.mk (below_step (by repeat (first | (with_reducible first | exact HB.out | apply below_alloc | apply pw_below_drewN | apply below_drew1) | exact HB.out)) hb); have n1_ := Aside0.mk (hbox); have n2_ := Aside0.mk ((by rw [hg]; exact (below_size (by repeat (first | (with_reducible first | exact HB.out | apply below_alloc | apply pw_below_drewN | apply below_drew1) | exact HB.out))) : w.heap.size ≤ gb150)); have n3_ := Aside0.mk ((by rw [hg]; exact (below_size (by repeat (first | (with_reducible first | exact HB.out | apply below_alloc | apply pw_below_drewN | apply below_drew1) | exact HB.out))) : w.heap.size ≤ gb150)); clear HB; have HB := n0_; have BK150 := n1_; have GW150 := n2_; have GE150 := n3_; clear n0_ n1_ n2_ n3_; clear hb hbox hg) | ((with_reducible refine gate_callee (f := 11) rfl ?_); refine goesL_ (some 14) rfl rfl Try.func11 (by kernel_rfl) rfl #[] rfl (by (try simp only [List.map_toArray, List.map_cons, List.map_nil]); first | done | rfl | (simp only [List.length_drop, List.length_take]; rfl)) ?_; (with_reducible refine (tangramlaw11_fixed.calls  true _ A3.out).mono ?_); rintro e w95 ⟨rfl, hb⟩; refine ⟨_, rfl, ?_⟩; have n0_ := Aside0.mk (blk_below (g := gb150) (o := .cells #[.int .i64 a0_0, .slice A0_1 l0_1.length c0_1] 24 (0, 0)) (by (with_reducible repeat (first | refine blk_drewN ?_ _ | refine blk_drew ?_ | refine blk_alloc ?_ _)); exact BK150.out) hb); have n1_ := Aside0.mk (below_step (by repeat (first | (with_reducible first | exact HB.out | apply below_alloc | apply pw_below_drewN | apply below_drew1 | refine below_set ?_ GE150.out) | exact HB.out)) hb); clear BK150; clear HB; have BK150 := n0_; have HB := n1_; clear n0_ n1_; (try clear hb); (try clear hb2); (try clear hk); (try clear hi); have hcz96_0 : w95.cell? ⟨gb150, 0, none⟩ = some (.int .i64 a0_0) := (blk_cell BK150.out 0).trans rfl; have hcz96_1 : w95.cell? ⟨gb150, 1, none⟩ = some (.slice A0_1 l0_1.length c0_1) := (blk_cell BK150.out 1).trans rfl; have hfz96_0 := blk_frozen BK150.out 0; have hfz96_1 := blk_frozen BK150.out 1) | ((with_reducible refine gate_callee (f := 12) rfl ?_); refine goesL_ (some 19) rfl rfl Try.func12 (by kernel_rfl) rfl #[.agg #[.int .i64 a0_0, .slice A0_1 l0_1.length c0_1], .slice A1 l1.length c1] rfl (by (try simp only [List.map_toArray, List.map_cons, List.map_nil]); first | done | rfl | (simp only [List.length_drop, List.length_take]; rfl)) ?_; (with_reducible refine (rot_Next.calls k a0_0 _ _ l0_1 _ _ l1 t152 t155 _ ?side1 ?side2 ?side3 ?side4 A5.out).mono ?_); (case side1 => repeat (first | exact (Kd.C_below HR0_1.out HB.out) | (with_reducible refine Kd.C_alloc ?_ _) | (with_reducible refine Kd.C_drewN ?_ _) | (with_reducible refine Kd.C_drew ?_))); (case side2 => exact HC0_1.out); (case side3 => repeat (first | exact (Kd.C_below HR1.out HB.out) | (with_reducible refine Kd.C_alloc ?_ _) | (with_reducible refine Kd.C_drewN ?_ _) | (with_reducible refine Kd.C_drew ?_))); (case side4 => exact HC1.out); rintro e w97 ⟨v153, rfl, ho0, hb⟩; refine ⟨_, rfl, ?_⟩; have n0_ := Aside0.mk (Kd.R_lower ho0 (below_size (by repeat (first | (with_reducible first | exact HB.out | apply below_alloc | apply pw_below_drewN | apply below_drew1 | refine below_set ?_ GE150.out) | exact HB.out)))); have n1_ := Aside0.mk (blk_below (g := gb150) (o := .cells #[.int .i64 a0_0, .slice A0_1 l0_1.length c0_1] 24 (0, 0)) (by (with_reducible repeat (first | refine blk_drewN ?_ _ | refine blk_drew ?_ | refine blk_alloc ?_ _)); exact BK150.out) hb); have n2_ := Aside0.mk (below_step (by repeat (first | (with_reducible first | exact HB.out | apply below_alloc | apply pw_below_drewN | apply below_drew1 | refine below_set ?_ GE150.out) | exact HB.out)) hb); clear BK150; clear HB; have HO154 := n0_; have BK150 := n1_; have HB := n2_; clear n0_ n1_ n2_; (try clear hb); (try clear hb2); (try clear hk); (try clear hi); (try clear ho0); obtain ⟨Ao98, co98, eo98⟩ := Kd.R_slice HO154.out; subst eo98))
      go_ret
      exact ⟨by first | rfl | (simp [errW_none, errW_some] <;> rfl) | (simp [*, errW_none, errW_some] <;> rfl), by repeat (first | (with_reducible first | exact HB.out | apply below_alloc | apply pw_below_drewN | apply below_drew1 | refine below_set ?_ GE150.out) | exact HB.out)⟩
  · replace c4 := Bool.eq_false_iff.mpr c4
    subst c4
    have H1 : (some false) = some r := by rw [if_neg (show ¬ (false = true) by decide)] at H; exact H
    clear H
    have H := H1
    clear H1
    obtain rfl := Option.some.inj H
    go_enter Try.func3, Try.ntmps3
    go_wp2_with (first | ((with_reducible refine gate_dst (N := 2) rfl ?_); (try (refine gate_guard (by rfl) ?_; dsimp only)); refine box_event ?hg (N := 2) ?hd (cs := #[.int .i64 a0_0, .slice A0_1 l0_1.length c0_1]) (t := 24) ?hr ?_; (case hd => rfl); (case hg => rfl); (case hr => first | (go_simp; done) | (go_simp; rfl)); intro gb150 hg w99 hbox hb; have n0_ := Aside0.mk (below_step (by repeat (first | (with_reducible first | exact HB.out | apply below_alloc | apply pw_below_drewN | apply below_drew1) | exact HB.out)) hb); have n1_ := Aside0.mk (hbox); have n2_ := Aside0.mk ((by rw [hg]; exact (below_size (by repeat (first | (with_reducible first | exact HB.out | apply below_alloc | apply pw_below_drewN | apply below_drew1) | exact HB.out))) : w.heap.size ≤ gb150)); have n3_ := Aside0.mk ((by rw [hg]; exact (below_size (by repeat (first | (with_reducible first | exact HB.out | apply below_alloc | apply pw_below_drewN | apply below_drew1) | exact HB.out))) : w.heap.size ≤ gb150)); clear HB; have HB := n0_; have BK150 := n1_; have GW150 := n2_; have GE150 := n3_; clear n0_ n1_ n2_ n3_; clear hb hbox hg) | ((with_reducible refine gate_callee (f := 11) rfl ?_); refine goesL_ (some 14) rfl rfl Try.func11 (by kernel_rfl) rfl #[] rfl (by (try simp only [List.map_toArray, List.map_cons, List.map_nil]); first | done | rfl | (simp only [List.length_drop, List.length_take]; rfl)) ?_; (with_reducible refine (tangramlaw11_fixed.calls  false _ A3.out).mono ?_); rintro e w100 ⟨rfl, hb⟩; refine ⟨_, rfl, ?_⟩; have n0_ := Aside0.mk (blk_below (g := gb150) (o := .cells #[.int .i64 a0_0, .slice A0_1 l0_1.length c0_1] 24 (0, 0)) (by (with_reducible repeat (first | refine blk_drewN ?_ _ | refine blk_drew ?_ | refine blk_alloc ?_ _)); exact BK150.out) hb); have n1_ := Aside0.mk (below_step (by repeat (first | (with_reducible first | exact HB.out | apply below_alloc | apply pw_below_drewN | apply below_drew1 | refine below_set ?_ GE150.out) | exact HB.out)) hb); clear BK150; clear HB; have BK150 := n0_; have HB := n1_; clear n0_ n1_; (try clear hb); (try clear hb2); (try clear hk); (try clear hi)))
    go_ret
    exact ⟨by first | rfl | (simp [errW_none, errW_some] <;> rfl) | (simp [*, errW_none, errW_some] <;> rfl), by repeat (first | (with_reducible first | exact HB.out | apply below_alloc | apply pw_below_drewN | apply below_drew1 | refine below_set ?_ GE150.out) | exact HB.out)⟩

end Go.Proofs.Ytkkhhbegeboonaa.GAll
/- DERIVED. The law RotNext, told: its printed form answers true. -/


namespace Go.Proofs.Ytkkhhbegeboonaa.Rot
open Go.RowKit Go.Proofs.YtkkhhbegeboonaaW.PrintWords Go.Proofs.YtkkhhbegeboonaaW.PrintLast Go.Proofs.YtkkhhbegeboonaaW.PrintMore Go.Proofs.Ytkkhhbegeboonaa.GAll Go.Proofs.Ytkkhhbegeboonaa.Mem
set_option linter.unusedVariables false
set_option linter.unusedSimpArgs false
section
variable {fr : List Int} {n : Nat} {r : List (List Int)} {nx : List Int}
theorem next_at (h : IsRot fr n r) (hx : NextOf r fr.length nx) {v j : Nat} (hv : v < n) (hj : j < (gl r v).length) : gi nx (gi (gl r v) j).toNat = gi (gl r v) ((j + 1) % (gl r v).length) := hx.2 v (by rw [h.len]; exact hv) j hj
theorem next_in (h : IsRot fr n r) (hx : NextOf r fr.length nx) (hf : ∀ x, x < fr.length → 0 ≤ gi fr x ∧ gi fr x < n) {x : Nat} (hh : x < fr.length) : 0 ≤ gi nx x ∧ gi nx x < (fr.length : Int) ∧ gi fr (gi nx x).toNat = gi fr x := by
  obtain ⟨v, j, h1, h2, h3, h4⟩ := h.place hf hh
  have := next_at h hx h1 h3
  rw [h4, Int.toNat_natCast] at this
  have q := h.at h1 (Nat.mod_lt (j + 1) (show 0 < (gl r v).length by omega))
  rw [this, h2]
  exact q
theorem mod_succ_inj {L i j : Nat} (hi : i < L) (hj : j < L) (e : (i + 1) % L = (j + 1) % L) : i = j := by
  rcases Nat.lt_or_ge (i + 1) L with a | a <;> rcases Nat.lt_or_ge (j + 1) L with b | b
  · rw [Nat.mod_eq_of_lt a, Nat.mod_eq_of_lt b] at e; omega
  · obtain rfl : j + 1 = L := by omega
    rw [Nat.mod_eq_of_lt a, Nat.mod_self] at e; omega
  · obtain rfl : i + 1 = L := by omega
    rw [Nat.mod_eq_of_lt b, Nat.mod_self] at e; omega
  · omega
theorem next_inj (h : IsRot fr n r) (hx : NextOf r fr.length nx) (hf : ∀ x, x < fr.length → 0 ≤ gi fr x ∧ gi fr x < n) {x y : Nat} (hh : x < fr.length) (hy : y < fr.length) (e : gi nx x = gi nx y) : x = y := by
  obtain ⟨v, j, h1, h2, h3, h4⟩ := h.place hf hh
  obtain ⟨u, i, g1, g2, g3, g4⟩ := h.place hf hy
  have a := next_at h hx h1 h3
  have b := next_at h hx g1 g3
  rw [h4, Int.toNat_natCast] at a
  rw [g4, Int.toNat_natCast] at b
  have hm := Nat.mod_lt (j + 1) (show 0 < (gl r v).length by omega)
  have gm := Nat.mod_lt (i + 1) (show 0 < (gl r u).length by omega)
  rw [a, b] at e
  obtain ⟨rfl, e2⟩ := h.inj h1 g1 hm gm (by rw [e])
  obtain rfl := mod_succ_inj h3 g3 e2
  omega
end
theorem mod_ne {L j t : Nat} (hj : j < L) (ht : t + 1 < L) : (j + 1 + t) % L ≠ j := by
  rcases Nat.lt_or_ge (j + 1 + t) L with a | a
  · rw [Nat.mod_eq_of_lt a]; omega
  · rw [Nat.mod_eq_sub_mod a, Nat.mod_eq_of_lt (by omega)]; omega
theorem nodup_len {fr : List Int} {n : Nat} {r : List (List Int)} (h : IsRot fr n r) {v : Nat} (hv : v < n) : (gl r v).length = cnt fr fr.length v := by
  have h1 := nodup_subset (gl r v) (leaving fr v) (h.nodup v hv) (fun x hx => mem_leaving.2 ((h.mem v hv x).1 hx))
  have h2 := nodup_subset (leaving fr v) (gl r v) (leaving_nodup fr v) (fun x hx => (h.mem v hv x).2 (mem_leaving.1 hx))
  rw [leaving_cnt] at h1 h2
  omega
section
variable {n : Nat} {l : List Ed} {r : List (List Int)} {nx : List Int}
/-- round a vertex -/
theorem law_l2 (hg : PureV.Good (n : Int) l) (h : IsRot (frs l) n r) (hx : NextOf r (frs l).length nx) {ds : List Int} (hd : ds.length = n) (hv : ∀ v, v < n → gi ds v = (cnt (frs l) (frs l).length v : Int)) {v j q : Nat} (h1 : v < n) (h2 : j < (gl r v).length) (h3 : gi (gl r v) j = (q : Int))
    (hq : Ev (fun k => tangramlaw11_RotNext.l1 k nx ds ((2 * l.length : Nat) : Int) ((q + 1 : Nat) : Int) (n : Int) l) true) (d : Nat) : ∀ t : Nat, t + 1 + d = (gl r v).length →
    Ev (fun k => tangramlaw11_RotNext.l2 k nx ds (q : Int) (v : Int) (t : Int) (gi (gl r v) ((j + 1 + t) % (gl r v).length)) ((2 * l.length : Nat) : Int) (q : Int) (n : Int) l) true := by
  have hll := hg.2.2.1
  have hfl := frs_length l
  have hL := nodup_len h h1
  have hc := cnt_le (frs l) (frs l).length v
  have hq2 : q < 2 * l.length := by have := (h.at h1 h2); omega
  induction d with
  | zero =>
    intro t ht
    have e : (j + 1 + t) % (gl r v).length = j := by rw [show j + 1 + t = j + (gl r v).length by omega, Nat.add_mod_right, Nat.mod_eq_of_lt h2]
    rw [e, h3]
    refine Ev.step (f := fun k => tangramlaw11_RotNext.j4 k nx ds (q : Int) (v : Int) ((t + 1 : Nat) : Int) (q : Int) ((2 * l.length : Nat) : Int) (q : Int) false (n : Int) l) (fun k => ?_) (Ev.step (fun k => ?_) hq)
    · simp only [tangramlaw11_RotNext.l2]
      have h4 := (h.at h1 h2).2.2
      rw [h3, Int.toNat_natCast] at h4
      rw [from_f hll hq2, Option.bind_some, h4, if_pos rfl, if_pos (by omega), if_pos (by omega), PureV.wadd (i := t) (by omega), gi_rd, hv v h1, decide_eq_false (by omega)]
    · simp only [tangramlaw11_RotNext.j4]
      rw [if_neg (by decide), if_pos trivial, if_pos (by omega), if_pos (by omega), gi_rd, hv v h1, if_pos (by omega), PureV.wadd (i := q) (by omega)]
  | succ d ih =>
    intro t ht
    have hm := Nat.mod_lt (j + 1 + t) (show 0 < (gl r v).length by omega)
    obtain ⟨a, b, c⟩ := h.at h1 hm
    have hne : gi (gl r v) ((j + 1 + t) % (gl r v).length) ≠ (q : Int) := fun e => mod_ne (t := t) h2 (by omega) (gi_inj (h.nodup v h1) hm h2 (e.trans h3.symm))
    have hn := next_at h hx h1 hm
    obtain ⟨y, hy⟩ := Int.eq_ofNat_of_zero_le a
    rw [hy] at b c hne hn ⊢
    rw [Int.toNat_natCast] at c hn
    have hxl := hx.1
    have hI := ih (t + 1) (by omega)
    rw [show (j + 1 + (t + 1)) % (gl r v).length = ((j + 1 + t) % (gl r v).length + 1) % (gl r v).length by rw [Nat.mod_add_mod]; rfl, ← hn] at hI
    refine Ev.step (f := fun k => tangramlaw11_RotNext.j4 k nx ds (q : Int) (v : Int) ((t + 1 : Nat) : Int) (y : Int) ((2 * l.length : Nat) : Int) (q : Int) false (n : Int) l) (fun k => ?_) (Ev.step (fun k => ?_) hI)
    · simp only [tangramlaw11_RotNext.l2]
      rw [from_f hll (by omega), Option.bind_some, c, if_pos rfl, if_pos (by omega), if_pos (by omega), PureV.wadd (i := t) (by omega), gi_rd, hv v h1, decide_eq_false (by omega)]
    · simp only [tangramlaw11_RotNext.j4]
      rw [if_neg (by decide), if_neg hne, if_pos (by omega), if_pos (by omega), gi_rd]
theorem law_l1 (hg : PureV.Good (n : Int) l) (h : IsRot (frs l) n r) (hx : NextOf r (frs l).length nx) {ds : List Int} (hd : ds.length = n) (hv : ∀ v, v < n → gi ds v = (cnt (frs l) (frs l).length v : Int)) (d : Nat) : ∀ q : Nat, q + d = 2 * l.length →
    Ev (fun k => tangramlaw11_RotNext.l1 k nx ds ((2 * l.length : Nat) : Int) (q : Int) (n : Int) l) true := by
  have hll := hg.2.2.1
  have hfl := frs_length l
  have hxl := hx.1
  induction d with
  | zero =>
    intro q hq
    refine Ev.step (f := fun _ => some true) (fun k => ?_) (Ev.now _)
    simp only [tangramlaw11_RotNext.l1]
    rw [if_neg (by omega)]
  | succ d ih =>
    intro q hq
    obtain ⟨v, j, h1, h2, h3, h4⟩ := h.place (fun x hx => frs_range hg (by omega)) (show q < (frs l).length by omega)
    have hn := next_at h hx h1 h3
    rw [h4, Int.toNat_natCast] at hn
    have key := law_l2 hg h hx hd hv h1 h3 h4 (ih (q + 1) (by omega)) ((gl r v).length - 1) 0 (by omega)
    rw [Nat.add_zero, ← hn] at key
    refine Ev.step (fun k => ?_) key
    simp only [tangramlaw11_RotNext.l1]
    rw [if_pos (by omega), from_f hll (by omega), Option.bind_some, if_pos (by omega), if_pos (by omega), h2, gi_rd]
    rfl
theorem law_l0 (hg : PureV.Good (n : Int) l) (h : IsRot (frs l) n r) (hx : NextOf r (frs l).length nx) (d : Nat) : ∀ (q : Nat) (ds : List Int) (mt : List Bool), q + d = 2 * l.length → ds.length = n → mt.length = 2 * l.length → (∀ v, v < n → gi ds v = (cnt (frs l) q v : Int)) → (∀ x, gb mt x = true → ∃ y, y < q ∧ gi nx y = (x : Int)) →
    Ev (fun k => tangramlaw11_RotNext.l0 k nx ds mt ((2 * l.length : Nat) : Int) (q : Int) (n : Int) l) true := by
  have hll := hg.2.2.1
  have hfl := frs_length l
  have hxl := hx.1
  have hf : ∀ x, x < (frs l).length → 0 ≤ gi (frs l) x ∧ gi (frs l) x < (n : Int) := fun x hx => frs_range hg (by omega)
  induction d with
  | zero =>
    intro q ds mt hq hd hm hv hs
    obtain rfl : q = 2 * l.length := by omega
    refine Ev.step (fun k => ?_) (law_l1 hg h hx hd (by rw [hfl]; exact hv) (2 * l.length) 0 (by omega))
    simp only [tangramlaw11_RotNext.l0]
    rw [if_neg (by omega), show (nx.length : Int) = ((2 * l.length : Nat) : Int) by omega]
    rfl
  | succ d ih =>
    intro q ds mt hq hd hm hv hs
    have hqf : q < (frs l).length := by omega
    obtain ⟨a, b, c⟩ := next_in h hx hf hqf
    obtain ⟨a2, b2⟩ := hf q hqf
    have hp := cnt_put (n := n) (fr := frs l) (m := q) (ds := ds) rfl a2 b2 hd (by omega) hv
    have hno : gb mt (gi nx q).toNat = false := by
      cases e : gb mt (gi nx q).toNat with
      | false => rfl
      | true =>
        obtain ⟨y, h1, h2⟩ := hs _ e
        have := next_inj h hx hf hqf (show y < (frs l).length by omega) (by omega)
        omega
    have key := ih (q + 1) _ (mt.set (gi nx q).toNat true) (by omega) (List.length_set.trans hd) (List.length_set.trans hm) hp (fun x hx => by
      rw [gb_set] at hx
      by_cases e : (gi nx q).toNat = x ∧ x < mt.length
      · exact ⟨q, by omega, by omega⟩
      · rw [if_neg e] at hx
        obtain ⟨y, h1, h2⟩ := hs x hx
        exact ⟨y, by omega, h2⟩)
    refine Ev.step (fun k => ?_) key
    simp only [tangramlaw11_RotNext.l0]
    rw [if_pos (by omega), from_f hll (by omega), Option.bind_some, if_pos a2, if_pos (by omega), if_pos (by omega), if_pos (by omega), gi_rd, if_neg (by omega), if_neg (by omega), if_pos a, if_pos (by omega)]
    rw [if_neg (show ¬ rdOf false mt (gi nx q) = true by
      have : rdOf false mt (gi nx q) = gb mt (gi nx q).toNat := rfl
      rw [this, hno]; decide), PureV.wadd (i := q) (by omega)]
end
theorem law_true (n : Int) (l : List Ed) (r : List (List Int)) : Ev (fun k => tangramlaw11_RotNext.f k n l r) true := by
  obtain ⟨res, h1, h2, h3⟩ := check_ev n l r
  unfold tangramlaw11_RotNext.f
  have hfix : Ev (fun k => tangramlaw11_fixed.f) true := Ev.now _
  refine Ev.bind hfix ?_
  refine Ev.congr (fun k => if_pos rfl) ?_
  by_cases h0 : res.2 = 0
  · rw [h2 h0] at h1
    obtain ⟨N, rfl, hg, hr⟩ := h3.1 h0
    obtain ⟨nx, e1, e2⟩ := next_ev hg hr h1
    refine Ev.bind e1 ?_
    refine Ev.congr (fun k => if_pos rfl) ?_
    obtain ⟨b, _, hb, hbg⟩ := PureV.valid (N : Int) l
    rw [hbg.2 hg] at hb
    refine Ev.bind hb ?_
    have hll := hg.2.2.1
    have hn := hg.2.1
    have hfl := frs_length l
    have key := law_l0 hg hr (by rw [hfl]; exact e2) (2 * l.length) 0 (List.replicate N 0) (List.replicate (2 * l.length) false) (by omega) (by simp) (by simp) (fun v h => by
      unfold gi cnt
      simp [List.getD_eq_getElem?_getD, List.getElem?_replicate, h]) (fun x hx => by rw [gb_none] at hx; cases hx)
    refine Ev.congr (fun k => if_pos rfl) (Ev.step (fun k => ?_) key)
    have e : ((nx.length : Int) != wrap64 (2 * (l.length : Int))) = false := by
      rw [IntWalk.wrap64_in _ (by omega), e2.1]
      simp
    simp only [tangramlaw11_RotNext.j0]
    rw [e, if_neg (by decide), if_pos (by omega), if_pos (by omega), if_pos (by omega), e2.1, if_pos (by omega)]
    rfl
  · refine Ev.bind (next_no h1 h0) ?_
    exact Ev.congr (fun k => by rw [if_neg h0]; rfl) (Ev.now _)
theorem RotNext (a0_0 : Int) (A0_1 : Option Addr) (c0_1 : Nat) (l0_1 : List Ed) (A1 : Option Addr) (c1 : Nat) (l1 : List (List Int)) (w : World) (hr0_1 : Kd.C k59 w A0_1 l0_1.length l0_1) (hc0_1 : l0_1.length ≤ c0_1) (hr1 : Kd.C (Kd.slice 3 (Kd.int .i64)) w A1 l1.length l1) (hc1 : l1.length ≤ c1) {P0 P1 : Prop} (g0 : P0) (g1 : P1) :
    Calls Try.prog 3 #[.agg #[.int .i64 a0_0, .slice A0_1 l0_1.length c0_1], .slice A1 l1.length c1] w fun e w' => e = .returned (.bool true) ∧ Below w.heap.size w w' := by
  obtain ⟨k, h⟩ := (law_true a0_0 l0_1 l1).rounds
  exact tangramlaw11_RotNext.calls k a0_0 A0_1 c0_1 l0_1 A1 c1 l1 true w hr0_1 hc0_1 hr1 hc1 h
end Go.Proofs.Ytkkhhbegeboonaa.Rot
/- DERIVED. What came in, opened: a datum that is read tells a value of a kind (the kit's printer's kinds), its numbers in their bounds, its lists no longer than the form's reach. -/







namespace Go.Proofs.Ytkkhhbegeboonaa.Open
open Go.RowKit Go.Proofs.YtkkhhbegeboonaaW.PrintWords Go.Proofs.YtkkhhbegeboonaaW.PrintLast Go.Proofs.YtkkhhbegeboonaaW.PrintMore Go.ChangeShapes Go.WideShapes Go.Deep
set_option linter.unusedVariables false
set_option linter.unusedSimpArgs false

/-- a number of its kind -/
def I64 (n : Int) : Prop := -9223372036854775808 ≤ n ∧ n ≤ 9223372036854775807
/-- every reading of a value of type t tells a value of kind d -/
def Opens {α : Type} (P : Program) (t : TypeId) (d : Kd α) (good : α → Prop) : Prop :=
  ∀ {H : Type} (enc : TypeId × Value → H) (w : World) (fuel : Nat) (cs : List Value) (x : DataW H × List MemPlace),
    DataW.trod enc P w 0 (fun _ => true) true fuel t cs = some x → (x.1.weights P t).all (· ≤ reachBytes) = true → ∃ v, d.K w v cs ∧ good v
section
variable {P : Program} {α β : Type}
theorem opens_int {t : TypeId} (ht : P.underlying t = some (.int .i64)) : Opens P t (Kd.int .i64) I64 := by
  intro H enc w fuel cs x h _
  obtain ⟨n, rfl, _, hw⟩ := DataW.trod_int ht h
  refine ⟨n, rfl, ?_⟩
  have hmin : IntKind.i64.min = -9223372036854775808 := rfl
  have hmax : IntKind.i64.max = 9223372036854775807 := rfl
  simp only [Lit.wf, Bool.and_eq_true, decide_eq_true_eq] at hw
  unfold I64; omega
theorem weightsAll_mem {H : Type} {e : TypeId} {l : List (DataW H)} (h : (DataW.weightsAll P e l).all (· ≤ reachBytes) = true) {d : DataW H} (hd : d ∈ l) : (d.weights P e).all (· ≤ reachBytes) = true := by
  induction l with
  | nil => cases hd
  | cons a l ih =>
    unfold DataW.weightsAll at h
    rw [List.all_append, Bool.and_eq_true] at h
    rcases List.mem_cons.1 hd with rfl | hd
    · exact h.1
    · exact ih h.2 hd
theorem opens_slice {t e : TypeId} {d : Kd α} {good : α → Prop} {B : Nat} (ht : P.underlying t = some (.slice e)) (hc : P.cellsOf e = d.sz) (hB : P.bytesOf e = B) (ho : Opens P e d good) (dflt : α) :
    Opens P t (Kd.slice e d) (fun xs => xs.length * B ≤ 140737488351232 ∧ ∀ x ∈ xs, good x) := by
  intro H enc w fuel cs x h hwt
  rcases open_slice ht h with ⟨rfl, rfl⟩ | ⟨a, len, cap, m, n, D, Pl, rfl, hb, hl, hm, hmm, rfl, hx⟩
  · exact ⟨[], ⟨none, 0, rfl, Nat.le_refl _, rfl, by simp, fun h => absurd h (by simp)⟩, by simp, by simp⟩
  · simp only [if_true] at hmm
    subst hmm
    unfold DataW.weights at hwt
    rw [ht] at hwt
    simp only [List.all_cons, List.all_append, Bool.and_eq_true, decide_eq_true_eq, List.length_map, List.length_range, hB] at hwt
    obtain ⟨hw1, hw2, _⟩ := hwt
    have each : ∀ i, i < len → ∃ v : α × List Value, v.2.length = d.sz ∧ d.K w v.1 v.2 ∧ good v.1 ∧ ∀ k u, v.2[k]? = some u → w.cell? (a.add (i * d.sz + k)) = some u := by
      intro i hi
      obtain ⟨cs', h1, h2⟩ := hx i (by omega)
      rw [hc] at h1
      obtain ⟨_, hlen, hcell⟩ := World.cells?_some h1
      obtain ⟨v, hv, hg⟩ := ho enc w n cs' _ h2 (weightsAll_mem hw2 (List.mem_map.2 ⟨i, List.mem_range.2 hi, rfl⟩))
      refine ⟨(v, cs'), hlen, hv, hg, fun k u hk => ?_⟩
      have hk2 : k < d.sz := by
        have hk3 : k < cs'.length := (List.getElem?_eq_some_iff.1 hk).1
        omega
      have := hcell k hk2
      rw [Go.Deep.add_add] at this
      rw [this]; exact hk
    haveI : Inhabited (α × List Value) := ⟨(dflt, [])⟩
    obtain ⟨q, hq⟩ := choose_lt each
    have hlen : ((List.range len).map fun i => (q i).1).length = len := by simp
    have hget : ∀ j p, ((List.range len).map fun i => (q i).1)[j]? = some p → j < len ∧ p = (q j).1 := by
      intro j p hj
      rw [List.getElem?_map] at hj
      by_cases hjl : j < len
      · rw [List.getElem?_range hjl] at hj
        exact ⟨hjl, by simpa using hj.symm⟩
      · rw [List.getElem?_eq_none (by simp; omega)] at hj; simp at hj
    refine ⟨(List.range len).map fun i => (q i).1, ⟨some a, m, by rw [hlen], by rw [hlen]; exact hl, by rw [hlen], ?_, fun _ => ⟨a, rfl, fun j p hj => ?_⟩⟩, ?_, ?_⟩
    · rw [hlen]; unfold maxLen at hm; omega
    · obtain ⟨hjl, rfl⟩ := hget j p hj
      exact ⟨(q j).2, (hq j hjl).1, (hq j hjl).2.1, (hq j hjl).2.2.2⟩
    · rw [hlen]
      have h5 : len * B ≤ (len + (m - len)) * B := Nat.mul_le_mul_right _ (by omega)
      have h6 : reachBytes = 140737488351232 := rfl
      omega
    · intro v hv
      obtain ⟨i, hi, rfl⟩ := List.mem_map.1 hv
      exact (hq i (List.mem_range.1 hi)).2.2.1
theorem opens_two {t : TypeId} {f0 f1 : Field} {a : Kd α} {b : Kd β} {ga : α → Prop} {gb : β → Prop} (ht : P.underlying t = some (.struct #[f0, f1])) (h0 : Opens P f0.type a ga) (h1 : Opens P f1.type b gb)
    (o0 : f0.offset = 0) (o1 : f1.offset = a.sz) (c0 : P.cellsOf f0.type = a.sz) (c1 : P.cellsOf f1.type = b.sz) (ct : P.cellsOf t = a.sz + b.sz) : Opens P t (Kd.pair a b) (fun x => ga x.1 ∧ gb x.2) := by
  intro H enc w fuel cs x h hwt
  obtain ⟨xs, n, _, rfl, hcl, hxl, hf⟩ := DataW.trod_struct ht h
  match xs, hxl with
  | [y0, y1], _ =>
    have g0 := hf 0 f0 rfl
    have g1 := hf 1 f1 rfl
    rw [o0, c0] at g0
    rw [o1, c1] at g1
    unfold DataW.weights at hwt
    rw [ht] at hwt
    simp only [List.map_cons, List.map_nil, DataW.weightsEach, List.all_append, Bool.and_eq_true] at hwt
    obtain ⟨hw0, hw1, _⟩ := hwt
    rw [List.drop_zero] at g0
    obtain ⟨v0, k0, q0⟩ := h0 enc w n _ y0 g0 hw0
    obtain ⟨v1, k1, q1⟩ := h1 enc w n _ y1 g1 hw1
    refine ⟨(v0, v1), ⟨_, _, ?_, k0, k1⟩, q0, q1⟩
    rw [List.take_of_length_le (l := cs.drop a.sz) (by rw [List.length_drop]; omega), List.take_append_drop]
theorem split_four {γ : Type} (cs : List γ) (a b c d : Nat) (h : cs.length = a + b + c + d) : cs = cs.take a ++ ((cs.drop a).take b ++ ((cs.drop (a + b)).take c ++ (cs.drop (a + b + c)).take d)) := by
  have h1 : (cs.drop (a + b + c)).take d = cs.drop (a + b + c) := List.take_of_length_le (by rw [List.length_drop]; omega)
  have h2 : cs.drop (a + b) = (cs.drop (a + b)).take c ++ cs.drop (a + b + c) := by rw [← List.drop_drop (l := cs) (i := c) (j := a + b), List.take_append_drop]
  have h3 : cs.drop a = (cs.drop a).take b ++ cs.drop (a + b) := by rw [← List.drop_drop (l := cs) (i := b) (j := a), List.take_append_drop]
  rw [h1, ← h2, ← h3, List.take_append_drop]
theorem opens_four {γ δ : Type} {t : TypeId} {f0 f1 f2 f3 : Field} {a : Kd α} {b : Kd β} {c : Kd γ} {d : Kd δ} {ga : α → Prop} {gb : β → Prop} {gc : γ → Prop} {gd : δ → Prop} (ht : P.underlying t = some (.struct #[f0, f1, f2, f3])) (h0 : Opens P f0.type a ga) (h1 : Opens P f1.type b gb) (h2 : Opens P f2.type c gc) (h3 : Opens P f3.type d gd)
    (o0 : f0.offset = 0) (o1 : f1.offset = a.sz) (o2 : f2.offset = a.sz + b.sz) (o3 : f3.offset = a.sz + b.sz + c.sz) (c0 : P.cellsOf f0.type = a.sz) (c1 : P.cellsOf f1.type = b.sz) (c2 : P.cellsOf f2.type = c.sz) (c3 : P.cellsOf f3.type = d.sz) (ct : P.cellsOf t = a.sz + b.sz + c.sz + d.sz) : Opens P t (Kd.pair a (Kd.pair b (Kd.pair c d))) (fun x => ga x.1 ∧ gb x.2.1 ∧ gc x.2.2.1 ∧ gd x.2.2.2) := by
  intro H enc w fuel cs x h hwt
  obtain ⟨xs, n, _, rfl, hcl, hxl, hf⟩ := DataW.trod_struct ht h
  match xs, hxl with
  | [y0, y1, y2, y3], _ =>
    have g0 := hf 0 f0 rfl
    have g1 := hf 1 f1 rfl
    have g2 := hf 2 f2 rfl
    have g3 := hf 3 f3 rfl
    rw [o0, c0] at g0
    rw [o1, c1] at g1
    rw [o2, c2] at g2
    rw [o3, c3] at g3
    unfold DataW.weights at hwt
    rw [ht] at hwt
    simp only [List.map_cons, List.map_nil, DataW.weightsEach, List.all_append, Bool.and_eq_true] at hwt
    obtain ⟨hw0, hw1, hw2, hw3, _⟩ := hwt
    rw [List.drop_zero] at g0
    obtain ⟨v0, k0, q0⟩ := h0 enc w n _ y0 g0 hw0
    obtain ⟨v1, k1, q1⟩ := h1 enc w n _ y1 g1 hw1
    obtain ⟨v2, k2, q2⟩ := h2 enc w n _ y2 g2 hw2
    obtain ⟨v3, k3, q3⟩ := h3 enc w n _ y3 g3 hw3
    refine ⟨(v0, v1, v2, v3), ⟨_, _, ?_, k0, _, _, rfl, k1, _, _, rfl, k2, k3⟩, q0, q1, q2, q3⟩
    exact split_four cs _ _ _ _ (by omega)
theorem opens_iso {t : TypeId} {d : Kd α} {good : α → Prop} {f : β → α} (g : α → β) (hg : ∀ x, f (g x) = x) (h : Opens P t d good) : Opens P t (Kd.iso d f) (fun y => good (f y)) := by
  intro H enc w fuel cs x hx hw
  obtain ⟨v, k, q⟩ := h enc w fuel cs x hx hw
  exact ⟨g v, by show d.K w (f (g v)) cs; rw [hg]; exact k, by show good (f (g v)); rw [hg]; exact q⟩
/-- an argument -/
theorem open_arg {H : Type} {enc : TypeId × Value → H} {w : World} {t : TypeId} {d : Kd α} {good : α → Prop} {v : Value} {dd : DataW H} {ps : List MemPlace} (ho : Opens P t d good) (h : DataW.Trod enc P w 0 (fun _ => true) true t v dd ps)
    (hw : (dd.weights P t).all (· ≤ reachBytes) = true) : ∃ x, d.K w x v.cells.toList ∧ good x := by
  obtain ⟨fuel, hf⟩ := h
  exact ho enc w fuel _ _ hf hw
/-- the weights of the j-th argument -/
theorem weight_at {H : Type} {ts : List TypeId} {ds : List (DataW H)} (h : (DataW.weightsEach P ts ds).all (· ≤ reachBytes) = true) : ∀ {j : Nat} {t : TypeId} {d : DataW H}, ts[j]? = some t → ds[j]? = some d → (d.weights P t).all (· ≤ reachBytes) = true := by
  induction ts generalizing ds with
  | nil => intro j t d ht; simp at ht
  | cons a ts ih =>
    cases ds with
    | nil => intro j t d _ hd; simp at hd
    | cons b ds =>
      unfold DataW.weightsEach at h
      rw [List.all_append, Bool.and_eq_true] at h
      intro j t d ht hd
      cases j with
      | zero =>
        obtain rfl : a = t := by simpa using ht
        obtain rfl : b = d := by simpa using hd
        exact h.1
      | succ j => exact ih h.2 (by simpa using ht) (by simpa using hd)
theorem of_slice {w : World} {e : Nat} {d : Kd α} {xs : List α} {A : Option Addr} {n c : Nat} (h : (Kd.slice e d).K w xs [.slice A n c]) : n = xs.length ∧ xs.length ≤ c ∧ d.C w A xs.length xs := by
  obtain ⟨A', c', he, hl, hc⟩ := h
  simp only [List.cons.injEq, Value.slice.injEq, and_true] at he
  obtain ⟨rfl, rfl, rfl⟩ := he
  exact ⟨rfl, hl, hc⟩
end
end Go.Proofs.Ytkkhhbegeboonaa.Open
