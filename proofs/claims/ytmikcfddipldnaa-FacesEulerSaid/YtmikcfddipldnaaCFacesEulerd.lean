/- DERIVED. Texts of this seat, one behind the other: lemmas and walks that the statement FacesEuler needs. No condition. -/
import Derived.Test.YtmikcfddipldnaaCFacesEulerb
import Derived.Test.YtmikcfddipldnaaCFacesEulerc
import Derived.Test.YtmikcfddipldnaaCFacesEulera
import Derived.SizedLaws
import Derived.ChangeSlices
import Derived.ProofKit
import Derived.OpenShut
import Derived.ChangeOld
import Derived.Deep.Slices
namespace Go.Proofs.Ytmikcfddipldnaa.GAll
open Go.RowKit Go.Proofs.YtmikcfddipldnaaW.PrintWords Go.Proofs.YtmikcfddipldnaaW.PrintLast Go.Proofs.YtmikcfddipldnaaW.PrintMore
attribute [local go_sem] max2_int min2_int max_two min_two max_three min_three max_four min_four   -- for this text's walks alone
set_option linter.unusedVariables false
set_option linter.unusedSimpArgs false
def faces_Flat.f (k : Nat) (a0_0 : Int) (l0_1 : List (S56)) (l1 : List (List Int)) : Option (Bool) := (faces_Genus.f k a0_0 l0_1 l1).bind fun bt135 => (if bt135.2 = 0 then (some (bt135.1 == 0)) else (some false))
theorem faces_Flat.mono : ∀ a0 a1 a2 k, LeO (faces_Flat.f k a0 a1 a2) (faces_Flat.f (k + 1) a0 a1 a2) := by
 intro a0 a1 a2 k
 unfold faces_Flat.f
 repeat' first
     | (with_reducible exact faces_Genus.mono _ _ _ _)
     | (with_reducible exact LeO.refl _)
     | (with_reducible exact LeO.none _)
     | (with_reducible refine LeO.ite ?_ ?_)
     | (with_reducible refine LeO.bind ?_ (fun _ => ?_))
     | exact faces_Genus.mono _ _ _ _
     | exact LeO.none _
     | refine LeO.ite ?_ ?_
     | refine LeO.bind ?_ (fun _ => ?_)
set_option maxHeartbeats 8000000 in
set_option maxRecDepth 100000 in
theorem faces_Flat.calls (k : Nat) (a0_0 : Int) (A0_1 : Option Addr) (c0_1 : Nat) (l0_1 : List (S56)) (A1 : Option Addr) (c1 : Nat) (l1 : List (List Int)) (r : Bool) (w : World) (hr0_1 : Kd.C k56 w A0_1 l0_1.length l0_1) (hc0_1 : l0_1.length ≤ c0_1) (hr1 : Kd.C (Kd.slice 3 (Kd.int .i64)) w A1 l1.length l1) (hc1 : l1.length ≤ c1) (h : faces_Flat.f k a0_0 l0_1 l1 = some r) :
   Calls Try.prog 20 #[.agg #[.int .i64 a0_0, .slice A0_1 l0_1.length c0_1], .slice A1 l1.length c1] w fun e w' => e = .returned (.bool r) ∧ Below w.heap.size w w' := by
 have hu24 := Try.underlying24
 have HR0_1 := Aside0.mk hr0_1
 have HC0_1 := Aside0.mk hc0_1
 clear hr0_1 hc0_1
 have HR1 := Aside0.mk hr1
 have HC1 := Aside0.mk hc1
 clear hr1 hc1
 have HB := Aside0.mk (Below.refl w.heap.size w)
 have H : ((faces_Genus.f k a0_0 l0_1 l1).bind fun bt135 => (if bt135.2 = 0 then (some (bt135.1 == 0)) else (some false))) = some r := h
 clear h
 replace H := Option.bind_eq_some_iff.mp H
 obtain ⟨⟨t135, t136⟩, A30, H⟩ := H
 replace H : (if t136 = 0 then (some (t135 == 0)) else (some false)) = some r := H
 have A3 := Aside0.mk A30
 clear A30
 by_cases c4 : t136 = 0
 · rw [if_pos c4] at H
   have c4b0 : (t136 == 0) = true := beq_iff_eq.mpr c4
   have c4b1 : (t136 != 0) = false := bne_eq_false_iff_eq.mpr c4
   clear c4
   obtain rfl := Option.some.inj H
   go_enter Try.func20, Try.ntmps20
   go_wp2_with (first | ((with_reducible refine gate_dst (N := 2) rfl ?_); refine box_event ?hg (N := 2) ?hd (cs := #[.int .i64 a0_0, .slice A0_1 l0_1.length c0_1]) (t := 24) ?hr ?_; (case hd => rfl); (case hg => rfl); (case hr => first | (go_simp; done) | (go_simp; rfl)); intro gb134 hg w5 hbox hb; have n0_ := Aside0.mk (below_step (by repeat (first | (with_reducible first | exact HB.out | apply below_alloc | apply pw_below_drewN | apply below_drew1) | exact HB.out)) hb); have n1_ := Aside0.mk (hbox); have n2_ := Aside0.mk ((by rw [hg]; exact (below_size (by repeat (first | (with_reducible first | exact HB.out | apply below_alloc | apply pw_below_drewN | apply below_drew1) | exact HB.out))) : w.heap.size ≤ gb134)); have n3_ := Aside0.mk ((by rw [hg]; exact (below_size (by repeat (first | (with_reducible first | exact HB.out | apply below_alloc | apply pw_below_drewN | apply below_drew1) | exact HB.out))) : w.heap.size ≤ gb134)); clear HB; have HB := n0_; have BK134 := n1_; have GW134 := n2_; have GE134 := n3_; clear n0_ n1_ n2_ n3_; clear hb hbox hg; have hcz6_0 : w5.cell? ⟨gb134, 0, none⟩ = some (.int .i64 a0_0) := (blk_cell BK134.out 0).trans rfl; have hcz6_1 : w5.cell? ⟨gb134, 1, none⟩ = some (.slice A0_1 l0_1.length c0_1) := (blk_cell BK134.out 1).trans rfl; have hfz6_0 := blk_frozen BK134.out 0; have hfz6_1 := blk_frozen BK134.out 1) | ((with_reducible refine gate_callee (f := 18) rfl ?_); refine goesL_ (some 10) rfl rfl Try.func18 (by kernel_rfl) rfl #[.agg #[.int .i64 a0_0, .slice A0_1 l0_1.length c0_1], .slice A1 l1.length c1] rfl (by (try simp only [List.map_toArray, List.map_cons, List.map_nil]); first | done | rfl | (simp only [List.length_drop, List.length_take]; rfl)) ?_; (with_reducible refine (faces_Genus.calls k a0_0 _ _ l0_1 _ _ l1 t135 t136 _ ?side1 ?side2 ?side3 ?side4 A3.out).mono ?_); (case side1 => repeat (first | exact (Kd.C_below HR0_1.out HB.out) | (with_reducible refine Kd.C_alloc ?_ _) | (with_reducible refine Kd.C_drewN ?_ _) | (with_reducible refine Kd.C_drew ?_))); (case side2 => exact HC0_1.out); (case side3 => repeat (first | exact (Kd.C_below HR1.out HB.out) | (with_reducible refine Kd.C_alloc ?_ _) | (with_reducible refine Kd.C_drewN ?_ _) | (with_reducible refine Kd.C_drew ?_))); (case side4 => exact HC1.out); rintro e w7 ⟨rfl, hb⟩; refine ⟨_, rfl, ?_⟩; have n0_ := Aside0.mk (blk_below (g := gb134) (o := .cells #[.int .i64 a0_0, .slice A0_1 l0_1.length c0_1] 24 (0, 0)) (by (with_reducible repeat (first | refine blk_drewN ?_ _ | refine blk_drew ?_ | refine blk_alloc ?_ _)); exact BK134.out) hb); have n1_ := Aside0.mk (below_step (by repeat (first | (with_reducible first | exact HB.out | apply below_alloc | apply pw_below_drewN | apply below_drew1 | refine below_set ?_ GE134.out) | exact HB.out)) hb); clear BK134; clear HB; have BK134 := n0_; have HB := n1_; clear n0_ n1_; (try clear hb); (try clear hb2); (try clear hk); (try clear hi)))
   go_ret
   exact ⟨by first | rfl | (simp [errW_none, errW_some] <;> rfl) | (simp [*, errW_none, errW_some] <;> rfl), by repeat (first | (with_reducible first | exact HB.out | apply below_alloc | apply pw_below_drewN | apply below_drew1 | refine below_set ?_ GE134.out) | exact HB.out)⟩
 · rw [if_neg c4] at H
   have c4b0 : (t136 == 0) = false := beq_eq_false_iff_ne.mpr c4
   have c4b1 : (t136 != 0) = true := bne_iff_ne.mpr c4
   obtain rfl := Option.some.inj H
   go_enter Try.func20, Try.ntmps20
   go_wp2_with (first | ((with_reducible refine gate_dst (N := 2) rfl ?_); refine box_event ?hg (N := 2) ?hd (cs := #[.int .i64 a0_0, .slice A0_1 l0_1.length c0_1]) (t := 24) ?hr ?_; (case hd => rfl); (case hg => rfl); (case hr => first | (go_simp; done) | (go_simp; rfl)); intro gb134 hg w8 hbox hb; have n0_ := Aside0.mk (below_step (by repeat (first | (with_reducible first | exact HB.out | apply below_alloc | apply pw_below_drewN | apply below_drew1) | exact HB.out)) hb); have n1_ := Aside0.mk (hbox); have n2_ := Aside0.mk ((by rw [hg]; exact (below_size (by repeat (first | (with_reducible first | exact HB.out | apply below_alloc | apply pw_below_drewN | apply below_drew1) | exact HB.out))) : w.heap.size ≤ gb134)); have n3_ := Aside0.mk ((by rw [hg]; exact (below_size (by repeat (first | (with_reducible first | exact HB.out | apply below_alloc | apply pw_below_drewN | apply below_drew1) | exact HB.out))) : w.heap.size ≤ gb134)); clear HB; have HB := n0_; have BK134 := n1_; have GW134 := n2_; have GE134 := n3_; clear n0_ n1_ n2_ n3_; clear hb hbox hg; have hcz9_0 : w8.cell? ⟨gb134, 0, none⟩ = some (.int .i64 a0_0) := (blk_cell BK134.out 0).trans rfl; have hcz9_1 : w8.cell? ⟨gb134, 1, none⟩ = some (.slice A0_1 l0_1.length c0_1) := (blk_cell BK134.out 1).trans rfl; have hfz9_0 := blk_frozen BK134.out 0; have hfz9_1 := blk_frozen BK134.out 1) | ((with_reducible refine gate_callee (f := 18) rfl ?_); refine goesL_ (some 10) rfl rfl Try.func18 (by kernel_rfl) rfl #[.agg #[.int .i64 a0_0, .slice A0_1 l0_1.length c0_1], .slice A1 l1.length c1] rfl (by (try simp only [List.map_toArray, List.map_cons, List.map_nil]); first | done | rfl | (simp only [List.length_drop, List.length_take]; rfl)) ?_; (with_reducible refine (faces_Genus.calls k a0_0 _ _ l0_1 _ _ l1 t135 t136 _ ?side1 ?side2 ?side3 ?side4 A3.out).mono ?_); (case side1 => repeat (first | exact (Kd.C_below HR0_1.out HB.out) | (with_reducible refine Kd.C_alloc ?_ _) | (with_reducible refine Kd.C_drewN ?_ _) | (with_reducible refine Kd.C_drew ?_))); (case side2 => exact HC0_1.out); (case side3 => repeat (first | exact (Kd.C_below HR1.out HB.out) | (with_reducible refine Kd.C_alloc ?_ _) | (with_reducible refine Kd.C_drewN ?_ _) | (with_reducible refine Kd.C_drew ?_))); (case side4 => exact HC1.out); rintro e w10 ⟨rfl, hb⟩; refine ⟨_, rfl, ?_⟩; have n0_ := Aside0.mk (blk_below (g := gb134) (o := .cells #[.int .i64 a0_0, .slice A0_1 l0_1.length c0_1] 24 (0, 0)) (by (with_reducible repeat (first | refine blk_drewN ?_ _ | refine blk_drew ?_ | refine blk_alloc ?_ _)); exact BK134.out) hb); have n1_ := Aside0.mk (below_step (by repeat (first | (with_reducible first | exact HB.out | apply below_alloc | apply pw_below_drewN | apply below_drew1 | refine below_set ?_ GE134.out) | exact HB.out)) hb); clear BK134; clear HB; have BK134 := n0_; have HB := n1_; clear n0_ n1_; (try clear hb); (try clear hb2); (try clear hk); (try clear hi)))
   go_ret
   exact ⟨by first | rfl | (simp [errW_none, errW_some] <;> rfl) | (simp [*, errW_none, errW_some] <;> rfl), by repeat (first | (with_reducible first | exact HB.out | apply below_alloc | apply pw_below_drewN | apply below_drew1 | refine below_set ?_ GE134.out) | exact HB.out)⟩
end Go.Proofs.Ytmikcfddipldnaa.GAll
namespace Go.Proofs.Ytmikcfddipldnaa.GAll
open Go.RowKit Go.Proofs.YtmikcfddipldnaaW.PrintWords Go.Proofs.YtmikcfddipldnaaW.PrintLast Go.Proofs.YtmikcfddipldnaaW.PrintMore
attribute [local go_sem] max2_int min2_int max_two min_two max_three min_three max_four min_four   -- for this text's walks alone
set_option linter.unusedVariables false
set_option linter.unusedSimpArgs false
mutual
def tangramref05_Isolated.l0 : Nat → List Bool → Int → Int → List (S56) → Option (Int × Int)
 | 0, _, _, _, _ => none
 | k + 1, x4, x5, x183000, x183001 => if x5 < (x183001.length : Int) then (if 0 ≤ x5 then (if 0 ≤ ((rd_T56 x183001 x5).f0) then (if ((rd_T56 x183001 x5).f0) < (x4.length : Int) then (if 0 ≤ ((rd_T56 x183001 x5).f1) then (if ((rd_T56 x183001 x5).f1) < (x4.length : Int) then (tangramref05_Isolated.l0 k ((x4.set (((rd_T56 x183001 x5).f0) : Int).toNat true).set (((rd_T56 x183001 x5).f1) : Int).toNat true) (wrap64 (x5 + 1)) x183000 x183001) else (none)) else (none)) else (none)) else (none)) else (none)) else (tangramref05_Isolated.l1 k x4 0 0 x183000 x183001)
def tangramref05_Isolated.l1 : Nat → List Bool → Int → Int → Int → List (S56) → Option (Int × Int)
 | 0, _, _, _, _, _ => none
 | k + 1, x4, x6, x7, x183000, x183001 => if x7 < x183000 then (if 0 ≤ x7 then (if x7 < (x4.length : Int) then (if rdOf false x4 x7 = true then (tangramref05_Isolated.l1 k x4 x6 (wrap64 (x7 + 1)) x183000 x183001) else (tangramref05_Isolated.l1 k x4 (wrap64 (x6 + 1)) (wrap64 (x7 + 1)) x183000 x183001)) else (none)) else (none)) else (some (x6, 0))
end
def tangramref05_Isolated.f (k : Nat) (a0_0 : Int) (l0_1 : List (S56)) : Option (Int × Int) := (tangramref03_Valid.f k a0_0 l0_1).bind fun t183 => (if t183 = true then (if 0 ≤ a0_0 then (if (a0_0 : Int).toNat ≤ 281474976710656 then (tangramref05_Isolated.l0 k (List.replicate (a0_0 : Int).toNat false) 0 a0_0 l0_1) else (none)) else (none)) else (some (0, 1)))
theorem tangramref05_Isolated.mono_l : ∀ k, (∀ y0 y1 y2 y3, LeO (tangramref05_Isolated.l0 k y0 y1 y2 y3) (tangramref05_Isolated.l0 (k + 1) y0 y1 y2 y3)) ∧ (∀ y0 y1 y2 y3 y4, LeO (tangramref05_Isolated.l1 k y0 y1 y2 y3 y4) (tangramref05_Isolated.l1 (k + 1) y0 y1 y2 y3 y4))
 | 0 => ⟨fun _ _ _ _ r h => by simp [tangramref05_Isolated.l0] at h, fun _ _ _ _ _ r h => by simp [tangramref05_Isolated.l1] at h⟩
 | k + 1 => by
   obtain ⟨ih0, ih1⟩ := tangramref05_Isolated.mono_l k
   refine ⟨?_, ?_⟩
   · intro y0 y1 y2 y3
     unfold tangramref05_Isolated.l0
     repeat' first
     | (with_reducible exact ih0 _ _ _ _)
     | (with_reducible exact ih1 _ _ _ _ _)
     | (with_reducible exact tangramref03_Valid.mono _ _ _)
     | (with_reducible exact LeO.refl _)
     | (with_reducible exact LeO.none _)
     | (with_reducible refine LeO.ite ?_ ?_)
     | (with_reducible refine LeO.bind ?_ (fun _ => ?_))
     | exact ih0 _ _ _ _
     | exact ih1 _ _ _ _ _
     | exact tangramref03_Valid.mono _ _ _
     | exact LeO.none _
     | refine LeO.ite ?_ ?_
     | refine LeO.bind ?_ (fun _ => ?_)
   · intro y0 y1 y2 y3 y4
     unfold tangramref05_Isolated.l1
     repeat' first
     | (with_reducible exact ih0 _ _ _ _)
     | (with_reducible exact ih1 _ _ _ _ _)
     | (with_reducible exact tangramref03_Valid.mono _ _ _)
     | (with_reducible exact LeO.refl _)
     | (with_reducible exact LeO.none _)
     | (with_reducible refine LeO.ite ?_ ?_)
     | (with_reducible refine LeO.bind ?_ (fun _ => ?_))
     | exact ih0 _ _ _ _
     | exact ih1 _ _ _ _ _
     | exact tangramref03_Valid.mono _ _ _
     | exact LeO.none _
     | refine LeO.ite ?_ ?_
     | refine LeO.bind ?_ (fun _ => ?_)
theorem tangramref05_Isolated.mono : ∀ a0 a1 k, LeO (tangramref05_Isolated.f k a0 a1) (tangramref05_Isolated.f (k + 1) a0 a1) := by
 intro a0 a1 k
 obtain ⟨ih0, ih1⟩ := tangramref05_Isolated.mono_l k
 unfold tangramref05_Isolated.f
 repeat' first
     | (with_reducible exact ih0 _ _ _ _)
     | (with_reducible exact ih1 _ _ _ _ _)
     | (with_reducible exact tangramref03_Valid.mono _ _ _)
     | (with_reducible exact LeO.refl _)
     | (with_reducible exact LeO.none _)
     | (with_reducible refine LeO.ite ?_ ?_)
     | (with_reducible refine LeO.bind ?_ (fun _ => ?_))
     | exact ih0 _ _ _ _
     | exact ih1 _ _ _ _ _
     | exact tangramref03_Valid.mono _ _ _
     | exact LeO.none _
     | refine LeO.ite ?_ ?_
     | refine LeO.bind ?_ (fun _ => ?_)
set_option maxHeartbeats 8000000 in
set_option maxRecDepth 100000 in
theorem tangramref05_Isolated.calls (k : Nat) (a0_0 : Int) (A0_1 : Option Addr) (c0_1 : Nat) (l0_1 : List (S56)) (r1 : Int) (r2 : Int) (w : World) (hr0_1 : Kd.C k56 w A0_1 l0_1.length l0_1) (hc0_1 : l0_1.length ≤ c0_1) (h : tangramref05_Isolated.f k a0_0 l0_1 = some (r1, r2)) :
   Calls Try.prog 33 #[.agg #[.int .i64 a0_0, .slice A0_1 l0_1.length c0_1]] w fun e w' => e = .returned (.tuple #[.int .i64 r1, .int .i64 r2]) ∧ Below w.heap.size w w' := by
 have hu24 := Try.underlying24
 have HR0_1 := Aside0.mk hr0_1
 have HC0_1 := Aside0.mk hc0_1
 clear hr0_1 hc0_1
 have HB := Aside0.mk (Below.refl w.heap.size w)
 have H : ((tangramref03_Valid.f k a0_0 l0_1).bind fun t183 => (if t183 = true then (if 0 ≤ a0_0 then (if (a0_0 : Int).toNat ≤ 281474976710656 then (tangramref05_Isolated.l0 k (List.replicate (a0_0 : Int).toNat false) 0 a0_0 l0_1) else (none)) else (none)) else (some (0, 1)))) = some (r1, r2) := h
 clear h
 replace H := Option.bind_eq_some_iff.mp H
 obtain ⟨t183, A20, H⟩ := H
 replace H : (if t183 = true then (if 0 ≤ a0_0 then (if (a0_0 : Int).toNat ≤ 281474976710656 then (tangramref05_Isolated.l0 k (List.replicate (a0_0 : Int).toNat false) 0 a0_0 l0_1) else (none)) else (none)) else (some (0, 1))) = some (r1, r2) := H
 have A2 := Aside0.mk A20
 clear A20
 by_cases c3 : t183 = true
 · subst c3
   have H1 : (if 0 ≤ a0_0 then (if (a0_0 : Int).toNat ≤ 281474976710656 then (tangramref05_Isolated.l0 k (List.replicate (a0_0 : Int).toNat false) 0 a0_0 l0_1) else (none)) else (none)) = some (r1, r2) := by rw [if_pos rfl] at H; exact H
   clear H
   have H := H1
   clear H1
   by_cases c4 : 0 ≤ a0_0
   · rw [if_pos c4] at H
     have c4b0 := eq_true c4
     have c4b1 : decide (0 ≤ a0_0) = true := decide_eq_true c4
     clear c4
     by_cases c5 : (a0_0 : Int).toNat ≤ 281474976710656
     · rw [if_pos c5] at H
       have c5b0 := eq_true c5
       have c5b1 : decide ((a0_0 : Int).toNat ≤ 281474976710656) = true := decide_eq_true c5
       clear c5
       obtain ⟨y184, hy184⟩ : ∃ y_ : List Bool, y_ = (List.replicate (a0_0 : Int).toNat false) := ⟨_, rfl⟩
       replace H : (tangramref05_Isolated.l0 k y184 0 a0_0 l0_1) = some (r1, r2) := by first | (rw [hy184]; with_reducible exact H) | (have H2_ := (Option.bind_some _ _).symm.trans H; rw [hy184]; with_reducible exact H2_) | (have H2_ := (Option.bind_some _ _).symm.trans H; with_reducible exact H2_) | with_reducible exact H | (rw [hy184]; exact H) | exact H
       have Ny184 := Aside0.mk hy184
       clear hy184
       have H' := Aside0.mk H
       clear H
       go_enter Try.func33, Try.ntmps33
       go_wp2_with (first | ((with_reducible refine gate_dst (N := 1) rfl ?_); refine box_event ?hg (N := 1) ?hd (cs := #[.int .i64 a0_0, .slice A0_1 l0_1.length c0_1]) (t := 24) ?hr ?_; (case hd => rfl); (case hg => rfl); (case hr => first | (go_simp; done) | (go_simp; rfl)); intro gb182 hg w6 hbox hb; have n0_ := Aside0.mk (below_step (by repeat (first | (with_reducible first | exact HB.out | apply below_alloc | apply pw_below_drewN | apply below_drew1) | exact HB.out)) hb); have n1_ := Aside0.mk (hbox); have n2_ := Aside0.mk ((by rw [hg]; exact (below_size (by repeat (first | (with_reducible first | exact HB.out | apply below_alloc | apply pw_below_drewN | apply below_drew1) | exact HB.out))) : w.heap.size ≤ gb182)); have n3_ := Aside0.mk ((by rw [hg]; exact (below_size (by repeat (first | (with_reducible first | exact HB.out | apply below_alloc | apply pw_below_drewN | apply below_drew1) | exact HB.out))) : w.heap.size ≤ gb182)); clear HB; have HB := n0_; have BK182 := n1_; have GW182 := n2_; have GE182 := n3_; clear n0_ n1_ n2_ n3_; clear hb hbox hg; have hcz7_0 : w6.cell? ⟨gb182, 0, none⟩ = some (.int .i64 a0_0) := (blk_cell BK182.out 0).trans rfl; have hcz7_1 : w6.cell? ⟨gb182, 1, none⟩ = some (.slice A0_1 l0_1.length c0_1) := (blk_cell BK182.out 1).trans rfl; have hfz7_0 := blk_frozen BK182.out 0; have hfz7_1 := blk_frozen BK182.out 1) | ((with_reducible refine gate_callee (f := 47) rfl ?_); refine goesL_ (some 9) rfl rfl Try.func47 (by kernel_rfl) rfl #[.agg #[.int .i64 a0_0, .slice A0_1 l0_1.length c0_1]] rfl (by (try simp only [List.map_toArray, List.map_cons, List.map_nil]); first | done | rfl | (simp only [List.length_drop, List.length_take]; rfl)) ?_; (with_reducible refine (tangramref03_Valid.calls k a0_0 _ _ l0_1 true _ ?side1 ?side2 A2.out).mono ?_); (case side1 => repeat (first | exact (Kd.C_below HR0_1.out HB.out) | (with_reducible refine Kd.C_alloc ?_ _) | (with_reducible refine Kd.C_drewN ?_ _) | (with_reducible refine Kd.C_drew ?_))); (case side2 => exact HC0_1.out); rintro e w8 ⟨rfl, hb⟩; refine ⟨_, rfl, ?_⟩; have n0_ := Aside0.mk (blk_below (g := gb182) (o := .cells #[.int .i64 a0_0, .slice A0_1 l0_1.length c0_1] 24 (0, 0)) (by (with_reducible repeat (first | refine blk_drewN ?_ _ | refine blk_drew ?_ | refine blk_alloc ?_ _)); exact BK182.out) hb); have n1_ := Aside0.mk (below_step (by repeat (first | (with_reducible first | exact HB.out | apply below_alloc | apply pw_below_drewN | apply below_drew1 | refine below_set ?_ GE182.out) | exact HB.out)) hb); clear BK182; clear HB; have BK182 := n0_; have HB := n1_; clear n0_ n1_; (try clear hb); (try clear hb2); (try clear hk); (try clear hi); have hcz9_0 : w8.cell? ⟨gb182, 0, none⟩ = some (.int .i64 a0_0) := (blk_cell BK182.out 0).trans rfl; have hcz9_1 : w8.cell? ⟨gb182, 1, none⟩ = some (.slice A0_1 l0_1.length c0_1) := (blk_cell BK182.out 1).trans rfl; have hfz9_0 := blk_frozen BK182.out 0; have hfz9_1 := blk_frozen BK182.out 1) | ((with_reducible refine gate_dst (N := 13) rfl ?_); refine Kd.R_make Kd.bool _ 4 rfl (N := 13) rfl 60 _ _ rfl a0_0 rfl rfl Try.underlying60 (.bool false) 1 info4 rfl (by decide) (by omega) false (ok := fun _ => True) (okp := fun _ => True) rfl (fun _ hk => hk) trivial (of_decide_eq_true (by first | (with_reducible assumption) | assumption)) (Nat.le_trans (Nat.mul_le_mul_right _ (of_decide_eq_true (by first | (with_reducible assumption) | assumption) : a0_0.toNat ≤ 281474976710656)) (by omega)) (Below.refl _ _) (Nat.le_refl _) ?_; intro v185 w10 ho11 hb hg_ hnew_; clear hg_ hnew_; (first | rw [← Ny184.out] at ho11 | (simp only [Int.reduceToNat] at ho11; rw [← Ny184.out] at ho11)); have n0_ := Aside0.mk (Kd.R_lower ho11 (below_size (by repeat (first | (with_reducible first | exact HB.out | apply below_alloc | apply pw_below_drewN | apply below_drew1 | refine below_set ?_ GE182.out) | exact HB.out)))); have n1_ := Aside0.mk (blk_below (g := gb182) (o := .cells #[.int .i64 a0_0, .slice A0_1 l0_1.length c0_1] 24 (0, 0)) (by (with_reducible repeat (first | refine blk_drewN ?_ _ | refine blk_drew ?_ | refine blk_alloc ?_ _)); exact BK182.out) hb); have n2_ := Aside0.mk (below_step (by repeat (first | (with_reducible first | exact HB.out | apply below_alloc | apply pw_below_drewN | apply below_drew1 | refine below_set ?_ GE182.out) | exact HB.out)) hb); clear BK182; clear HB; have HO186 := n0_; have BK182 := n1_; have HB := n2_; clear n0_ n1_ n2_; clear hb ho11))
       go_loopg [5] k (fun kq v5 w' => ∃ (x4_1 : List Bool) (x5_1 : Int), v5 = .int .i64 x5_1 ∧ Aside0 (tangramref05_Isolated.l0 kq x4_1 x5_1 a0_0 l0_1 = some (r1, r2)) ∧ Aside0 (kq ≤ k) ∧ Aside0 (Kd.R Kd.bool 4 w' w.heap.size (fun _ => True) v185 x4_1) ∧ Aside0 (w'.heap[gb182]? = some (.cells #[.int .i64 a0_0, (.slice A0_1 l0_1.length c0_1)] 24 (0, 0))) ∧ Aside0 (Below w.heap.size w w'))
       case atStart => exact ⟨(y184), (0), (by first | rfl | (simp; done) | (simp [*]; done)), H', ⟨Nat.le_refl _⟩, ⟨by (with_reducible repeat (first | apply Kd.R_alloc | apply Kd.R_drewN | apply Kd.R_drew)); exact HO186.out⟩, ⟨by (with_reducible repeat (first | refine blk_drewN ?_ _ | refine blk_drew ?_ | refine blk_alloc ?_ _)); exact BK182.out⟩, ⟨by repeat (first | (with_reducible first | exact HB.out | apply below_alloc | apply pw_below_drewN | apply below_drew1 | refine below_set ?_ GE182.out) | exact HB.out)⟩⟩
       case round =>
         clear H'
         try clear p2
         try clear c3
         try clear c4
         try clear c4b0
         try clear c4b1
         try clear c5
         try clear c5b0
         try clear c5b1
         try clear hcz7_0
         try clear hcz7_1
         try clear hcz9_0
         try clear hcz9_1
         try clear hfz7_0
         try clear hfz7_1
         try clear hfz9_0
         try clear hfz9_1
         obtain ⟨x4_1, x5_1, rfl, HA, HK1, HO_4, BK182, HB⟩ := hrel
         cases gk with
         | zero => exact absurd HA.out (by simp [tangramref05_Isolated.l0])
         | succ k1 =>
           have H := HA.out
           clear HA
           simp only [tangramref05_Isolated.l0] at H
           by_cases c12 : x5_1 < (l0_1.length : Int)
           · rw [if_pos c12] at H
             have c12b0 : decide (x5_1 < (l0_1.length : Int)) = true := decide_eq_true c12
             clear c12
             by_cases c13 : 0 ≤ x5_1
             · rw [if_pos c13] at H
               have c13b0 : decide (0 ≤ x5_1) = true := decide_eq_true c13
               clear c13
               by_cases c14 : 0 ≤ ((rd_T56 l0_1 x5_1).f0)
               · rw [if_pos c14] at H
                 have c14b0 : decide (0 ≤ ((rd_T56 l0_1 x5_1).f0)) = true := decide_eq_true c14
                 clear c14
                 by_cases c15 : ((rd_T56 l0_1 x5_1).f0) < (x4_1.length : Int)
                 · rw [if_pos c15] at H
                   have c15b0 : decide (((rd_T56 l0_1 x5_1).f0) < (x4_1.length : Int)) = true := decide_eq_true c15
                   clear c15
                   obtain ⟨y188, hy188⟩ : ∃ y_ : List Bool, y_ = (x4_1.set (((rd_T56 l0_1 x5_1).f0) : Int).toNat true) := ⟨_, rfl⟩
                   replace H : (if 0 ≤ ((rd_T56 l0_1 x5_1).f1) then (if ((rd_T56 l0_1 x5_1).f1) < (x4_1.length : Int) then (tangramref05_Isolated.l0 k1 (y188.set (((rd_T56 l0_1 x5_1).f1) : Int).toNat true) (wrap64 (x5_1 + 1)) a0_0 l0_1) else (none)) else (none)) = some (r1, r2) := by first | (rw [hy188]; with_reducible exact H) | (have H2_ := (Option.bind_some _ _).symm.trans H; rw [hy188]; with_reducible exact H2_) | (have H2_ := (Option.bind_some _ _).symm.trans H; with_reducible exact H2_) | with_reducible exact H | (rw [hy188]; exact H) | exact H
                   have Ny188 := Aside0.mk hy188
                   clear hy188
                   by_cases c17 : 0 ≤ ((rd_T56 l0_1 x5_1).f1)
                   · rw [if_pos c17] at H
                     have c17b0 : decide (0 ≤ ((rd_T56 l0_1 x5_1).f1)) = true := decide_eq_true c17
                     clear c17
                     by_cases c18 : ((rd_T56 l0_1 x5_1).f1) < (x4_1.length : Int)
                     · rw [if_pos c18] at H
                       have c18b0 : decide (((rd_T56 l0_1 x5_1).f1) < (x4_1.length : Int)) = true := decide_eq_true c18
                       clear c18
                       obtain ⟨y190, hy190⟩ : ∃ y_ : List Bool, y_ = (y188.set (((rd_T56 l0_1 x5_1).f1) : Int).toNat true) := ⟨_, rfl⟩
                       replace H : (tangramref05_Isolated.l0 k1 y190 (wrap64 (x5_1 + 1)) a0_0 l0_1) = some (r1, r2) := by first | (rw [hy190]; with_reducible exact H) | (have H2_ := (Option.bind_some _ _).symm.trans H; rw [hy190]; with_reducible exact H2_) | (have H2_ := (Option.bind_some _ _).symm.trans H; with_reducible exact H2_) | with_reducible exact H | (rw [hy190]; exact H) | exact H
                       have Ny190 := Aside0.mk hy190
                       clear hy190
                       have H' := Aside0.mk H
                       clear H
                       have hcz20_0 : wr.cell? ⟨gb182, 0, none⟩ = some (.int .i64 a0_0) := (blk_cell BK182.out 0).trans rfl
                       have hcz20_1 : wr.cell? ⟨gb182, 1, none⟩ = some (.slice A0_1 l0_1.length c0_1) := (blk_cell BK182.out 1).trans rfl
                       have hfz20_0 := blk_frozen BK182.out 0
                       have hfz20_1 := blk_frozen BK182.out 1
                       have p187 : 0 ≤ (x5_1 : Int) := of_decide_eq_true (by first | (with_reducible assumption) | assumption)
                       have q187 : x5_1 < (l0_1.length : Int) := of_decide_eq_true (by first | (with_reducible assumption) | assumption)
                       obtain ⟨ad187, e187, hx187_0, hx187_1⟩ := at_T56 HR0_1.out x5_1 p187 q187
                       cases e187
                       replace hx187_0 := (HB.out.cell (World.block_lt_of_cell? w _ hx187_0)).trans hx187_0
                       replace hx187_1 := (HB.out.cell (World.block_lt_of_cell? w _ hx187_1)).trans hx187_1
                       replace p187 := eq_true p187
                       replace q187 := eq_true q187
                       have p16 : 0 ≤ (((rd_T56 l0_1 x5_1).f0) : Int) := of_decide_eq_true (by first | (with_reducible assumption) | assumption)
                       have q16 : (((rd_T56 l0_1 x5_1).f0) : Int) < ((x4_1.length : Int) : Int) := of_decide_eq_true (by first | (with_reducible assumption) | assumption)
                       obtain ⟨go16, co16, eo16, gb16, gl16, cl16, HG16⟩ := Kd.R_form HO_4.out (by omega)
                       (first | cases eo16 | (injection eo16 with ea_ en_ ec_; (first | subst ea_ | (injection ea_ with ea_; subst ea_)); subst ec_; clear en_))
                       have GB16 := Aside0.mk gb16
                       have GG16 := Aside0.mk HG16
                       clear gb16 gl16 HG16
                       obtain ⟨hx16_0, hf16_0⟩ := Kd.R_celln false HO_4.out (((rd_T56 l0_1 x5_1).f0) : Int) p16 q16
                       replace p16 := eq_true p16
                       replace q16 := eq_true q16
                       have HP21 := Kd.R_putg HO_4.out (((rd_T56 l0_1 x5_1).f0) : Int) true
                       go_wp2_with (first | ((with_reducible refine gate_store (t := 4) (p := 28) rfl ?_); refine store_event (t := 4) (p := 28) (v := ?vo_w22) (w1 := (wr.setCell ⟨go16, (((rd_T56 l0_1 x5_1).f0) : Int).toNat, none⟩ (.bool true))) ?hg ?ho ?hn ?hr ?_; (case ho => rfl); (case hg => rfl); (case hn => rfl); (case hr => first | (go_simp; done) | (go_simp; rfl)); intro w22 hw; have hg : wr.grownBy w22 (some go16) := (by rw [hw]; exact HP21.2); have hp_ : Kd.R Kd.bool 4 w22 w.heap.size (fun _ => True) (.slice (some ⟨go16, 0, none⟩) x4_1.length co16) y188 := (by rw [hw, Ny188.out]; exact HP21.1); clear HP21; have n0_ := Aside0.mk (hp_); have n1_ := Aside0.mk (blk_grown (g := gb182) (o := .cells #[.int .i64 a0_0, .slice (some ad187) l0_1.length c0_1] 24 (0, 0)) (by (with_reducible repeat (first | refine blk_drewN ?_ _ | refine blk_drew ?_ | refine blk_alloc ?_ _)); exact BK182.out) hg (Kd.R_ne HO_4.out BK182.out (by decide))); have n2_ := Aside0.mk ((by rw [hw]; exact below_set (HB.out) GB16.out : Below w.heap.size w w22)); clear HO_4; clear BK182; clear HB; have HO_4 := n0_; have BK182 := n1_; have HB := n2_; clear n0_ n1_ n2_; clear hg hw hp_; have hcz23_0 : w22.cell? ⟨gb182, 0, none⟩ = some (.int .i64 a0_0) := (blk_cell BK182.out 0).trans rfl; have hcz23_1 : w22.cell? ⟨gb182, 1, none⟩ = some (.slice (some ad187) l0_1.length c0_1) := (blk_cell BK182.out 1).trans rfl; have hfz23_0 := blk_frozen BK182.out 0; have hfz23_1 := blk_frozen BK182.out 1; have p189 : 0 ≤ (x5_1 : Int) := of_decide_eq_true (by first | (with_reducible assumption) | assumption); have q189 : x5_1 < (l0_1.length : Int) := of_decide_eq_true (by first | (with_reducible assumption) | assumption); obtain ⟨ad189, e189, hx189_0, hx189_1⟩ := at_T56 HR0_1.out x5_1 p189 q189; obtain rfl : ad187 = ad189 := (by injection e189); replace hx189_0 := (HB.out.cell (World.block_lt_of_cell? w _ hx189_0)).trans hx189_0; replace hx189_1 := (HB.out.cell (World.block_lt_of_cell? w _ hx189_1)).trans hx189_1; replace p189 := eq_true p189; replace q189 := eq_true q189; have p19 : 0 ≤ (((rd_T56 l0_1 x5_1).f1) : Int) := of_decide_eq_true (by first | (with_reducible assumption) | assumption); have q19 : (((rd_T56 l0_1 x5_1).f1) : Int) < ((x4_1.length : Int) : Int) := of_decide_eq_true (by first | (with_reducible assumption) | assumption); obtain ⟨hx19_0, hf19_0⟩ := Kd.R_celln false HO_4.out (((rd_T56 l0_1 x5_1).f1) : Int) p19 q19; replace p19 := eq_true p19; replace q19 := eq_true q19; obtain ⟨hy24_, hz24_⟩ := Kd.R_celln false HO_4.out (((rd_T56 l0_1 x5_1).f1) : Int) (of_decide_eq_true (by first | (with_reducible assumption) | assumption)) (of_decide_eq_true (by first | (with_reducible assumption) | assumption)); have HP24 := Kd.R_putg HO_4.out (((rd_T56 l0_1 x5_1).f1) : Int) true) | ((with_reducible refine gate_store (t := 4) (p := 36) rfl ?_); refine store_event (t := 4) (p := 36) (v := ?vo_w25) (w1 := (w22.setCell ⟨go16, (((rd_T56 l0_1 x5_1).f1) : Int).toNat, none⟩ (.bool true))) ?hg ?ho ?hn ?hr ?_; (case ho => rfl); (case hg => rfl); (case hn => rfl); (case hr => first | (go_simp; done) | (go_simp; rfl)); intro w25 hw; have hg : w22.grownBy w25 (some go16) := (by rw [hw]; exact HP24.2); have hp_ : Kd.R Kd.bool 4 w25 w.heap.size (fun _ => True) (.slice (some ⟨go16, 0, none⟩) x4_1.length co16) y190 := (by rw [hw, Ny190.out]; exact HP24.1); clear HP24; have n0_ := Aside0.mk (hp_); have n1_ := Aside0.mk (blk_grown (g := gb182) (o := .cells #[.int .i64 a0_0, .slice (some ad187) l0_1.length c0_1] 24 (0, 0)) (by (with_reducible repeat (first | refine blk_drewN ?_ _ | refine blk_drew ?_ | refine blk_alloc ?_ _)); exact BK182.out) hg (Kd.R_ne HO_4.out BK182.out (by decide))); have n2_ := Aside0.mk ((by rw [hw]; exact below_set (HB.out) GB16.out : Below w.heap.size w w25)); clear HO_4; clear BK182; clear HB; have HO_4 := n0_; have BK182 := n1_; have HB := n2_; clear n0_ n1_ n2_; clear hg hw hp_))
                       go_roundg k1
                       case measure => have := HK1.out; omega
                       case rel => exact ⟨(y190), (wrap64 (x5_1 + 1)), (by first | rfl | (simp; done) | (simp [*]; done)), H', ⟨by have := HK1.out; omega⟩, ⟨by (with_reducible repeat (first | apply Kd.R_alloc | apply Kd.R_drewN | apply Kd.R_drew)); exact HO_4.out⟩, ⟨by (with_reducible repeat (first | refine blk_drewN ?_ _ | refine blk_drew ?_ | refine blk_alloc ?_ _)); exact BK182.out⟩, ⟨by repeat (first | (with_reducible first | exact HB.out | apply below_alloc | apply pw_below_drewN | apply below_drew1 | refine below_set ?_ GE182.out) | exact HB.out)⟩⟩
                     · rw [if_neg c18] at H
                       exact absurd H (by simp)
                   · rw [if_neg c17] at H
                     exact absurd H (by simp)
                 · rw [if_neg c15] at H
                   exact absurd H (by simp)
               · rw [if_neg c14] at H
                 exact absurd H (by simp)
             · rw [if_neg c13] at H
               exact absurd H (by simp)
           · rw [if_neg c12] at H
             have c12b0 : decide (x5_1 < (l0_1.length : Int)) = false := decide_eq_false c12
             clear c12
             have H' := Aside0.mk H
             clear H
             have hcz26_0 : wr.cell? ⟨gb182, 0, none⟩ = some (.int .i64 a0_0) := (blk_cell BK182.out 0).trans rfl
             have hcz26_1 : wr.cell? ⟨gb182, 1, none⟩ = some (.slice A0_1 l0_1.length c0_1) := (blk_cell BK182.out 1).trans rfl
             have hfz26_0 := blk_frozen BK182.out 0
             have hfz26_1 := blk_frozen BK182.out 1
             go_wp2
             go_loopg [6, 7] k1 (fun kq v6 v7 w' => ∃ (x6_2 : Int) (x7_2 : Int), v6 = .int .i64 x6_2 ∧ v7 = .int .i64 x7_2 ∧ Aside0 (tangramref05_Isolated.l1 kq x4_1 x6_2 x7_2 a0_0 l0_1 = some (r1, r2)) ∧ Aside0 (kq ≤ k1) ∧ Aside0 (Kd.R Kd.bool 4 w' w.heap.size (fun _ => True) v185 x4_1) ∧ Aside0 (w'.heap[gb182]? = some (.cells #[.int .i64 a0_0, (.slice A0_1 l0_1.length c0_1)] 24 (0, 0))) ∧ Aside0 (Below w.heap.size w w'))
             case atStart => exact ⟨(0), (0), (by first | rfl | (simp; done) | (simp [*]; done)), (by first | rfl | (simp; done) | (simp [*]; done)), H', ⟨Nat.le_refl _⟩, ⟨by (with_reducible repeat (first | apply Kd.R_alloc | apply Kd.R_drewN | apply Kd.R_drew)); exact HO_4.out⟩, ⟨by (with_reducible repeat (first | refine blk_drewN ?_ _ | refine blk_drew ?_ | refine blk_alloc ?_ _)); exact BK182.out⟩, ⟨by repeat (first | (with_reducible first | exact HB.out | apply below_alloc | apply pw_below_drewN | apply below_drew1 | refine below_set ?_ GE182.out) | exact HB.out)⟩⟩
             case round =>
               clear H'
               try clear c1
               try clear p1
               try clear q1
               try clear hx1
               try clear hf1
               try clear p2
               try clear c3
               try clear c4
               try clear c4b0
               try clear c4b1
               try clear c5
               try clear c5b0
               try clear c5b1
               try clear p6
               try clear c12
               try clear c12b0
               try clear c13
               try clear c13b0
               try clear c14
               try clear c14b0
               try clear c15
               try clear c15b0
               try clear p16
               try clear q16
               try clear hx16
               try clear hf16
               try clear c17
               try clear c17b0
               try clear c18
               try clear c18b0
               try clear p18
               try clear q18
               try clear hx18
               try clear p19
               try clear q19
               try clear hx19
               try clear hf19
               try clear hcz20_0
               try clear hcz20_1
               try clear hcz23_0
               try clear hcz23_1
               try clear hcz26_0
               try clear hcz26_1
               try clear hcz7_0
               try clear hcz7_1
               try clear hcz9_0
               try clear hcz9_1
               try clear hfz20_0
               try clear hfz20_1
               try clear hfz23_0
               try clear hfz23_1
               try clear hfz26_0
               try clear hfz26_1
               try clear hfz7_0
               try clear hfz7_1
               try clear hfz9_0
               try clear hfz9_1
               try clear hx16_0
               try clear hx187_0
               try clear hx187_1
               try clear hx189_0
               try clear hx189_1
               try clear hx19_0
               try clear p16
               try clear p187
               try clear p189
               try clear p19
               try clear p2
               try clear q16
               try clear q187
               try clear q189
               try clear q19
               obtain ⟨x6_2, x7_2, rfl, rfl, HA, HK2, HO_4, BK182, HB⟩ := hrel
               cases gk with
               | zero => exact absurd HA.out (by simp [tangramref05_Isolated.l1])
               | succ k2 =>
                 have H := HA.out
                 clear HA
                 simp only [tangramref05_Isolated.l1] at H
                 by_cases c27 : x7_2 < a0_0
                 · rw [if_pos c27] at H
                   have c27b0 : decide (x7_2 < a0_0) = true := decide_eq_true c27
                   clear c27
                   by_cases c28 : 0 ≤ x7_2
                   · rw [if_pos c28] at H
                     have c28b0 : decide (0 ≤ x7_2) = true := decide_eq_true c28
                     clear c28
                     by_cases c29 : x7_2 < (x4_1.length : Int)
                     · rw [if_pos c29] at H
                       have c29b0 : decide (x7_2 < (x4_1.length : Int)) = true := decide_eq_true c29
                       clear c29
                       obtain ⟨bq30, hbq30⟩ : ∃ b_ : Bool, b_ = (rdOf false x4_1 x7_2) := ⟨_, rfl⟩
                       replace H : (if bq30 = true then (tangramref05_Isolated.l1 k2 x4_1 x6_2 (wrap64 (x7_2 + 1)) a0_0 l0_1) else (tangramref05_Isolated.l1 k2 x4_1 (wrap64 (x6_2 + 1)) (wrap64 (x7_2 + 1)) a0_0 l0_1)) = some (r1, r2) := by rw [← hbq30] at H; exact H
                       have Nbq30 := Aside0.mk hbq30
                       clear hbq30
                       by_cases c31 : bq30 = true
                       · subst c31
                         have H1 : (tangramref05_Isolated.l1 k2 x4_1 x6_2 (wrap64 (x7_2 + 1)) a0_0 l0_1) = some (r1, r2) := by rw [if_pos rfl] at H; exact H
                         clear H
                         have H := H1
                         clear H1
                         have H' := Aside0.mk H
                         clear H
                         have hcz32_0 : wr.cell? ⟨gb182, 0, none⟩ = some (.int .i64 a0_0) := (blk_cell BK182.out 0).trans rfl
                         have hcz32_1 : wr.cell? ⟨gb182, 1, none⟩ = some (.slice A0_1 l0_1.length c0_1) := (blk_cell BK182.out 1).trans rfl
                         have hfz32_0 := blk_frozen BK182.out 0
                         have hfz32_1 := blk_frozen BK182.out 1
                         obtain ⟨Ao33, co33, eo33⟩ := Kd.R_slice HO_4.out
                         subst eo33
                         have p191 : 0 ≤ (x7_2 : Int) := of_decide_eq_true (by first | (with_reducible assumption) | assumption)
                         have q191 : x7_2 < (x4_1.length : Int) := of_decide_eq_true (by first | (with_reducible assumption) | assumption)
                         obtain ⟨ad191, e191, hx191_0⟩ := Kd.at_bool (Kd.R_reads' HO_4.out).2.2 x7_2 p191 q191
                         (try rw [← Nbq30.out] at hx191_0)
                         cases e191
                         replace p191 := eq_true p191
                         replace q191 := eq_true q191
                         go_wp2
                         go_roundg k2
                         case measure => have := HK1.out; have := HK2.out; omega
                         case rel => exact ⟨(x6_2), (wrap64 (x7_2 + 1)), (by first | rfl | (simp; done) | (simp [*]; done)), (by first | rfl | (simp; done) | (simp [*]; done)), H', ⟨by have := HK1.out; have := HK2.out; omega⟩, ⟨by (with_reducible repeat (first | apply Kd.R_alloc | apply Kd.R_drewN | apply Kd.R_drew)); exact HO_4.out⟩, ⟨by (with_reducible repeat (first | refine blk_drewN ?_ _ | refine blk_drew ?_ | refine blk_alloc ?_ _)); exact BK182.out⟩, ⟨by repeat (first | (with_reducible first | exact HB.out | apply below_alloc | apply pw_below_drewN | apply below_drew1 | refine below_set ?_ GE182.out) | exact HB.out)⟩⟩
                       · replace c31 := Bool.eq_false_iff.mpr c31
                         subst c31
                         have H1 : (tangramref05_Isolated.l1 k2 x4_1 (wrap64 (x6_2 + 1)) (wrap64 (x7_2 + 1)) a0_0 l0_1) = some (r1, r2) := by rw [if_neg (show ¬ (false = true) by decide)] at H; exact H
                         clear H
                         have H := H1
                         clear H1
                         have H' := Aside0.mk H
                         clear H
                         have hcz34_0 : wr.cell? ⟨gb182, 0, none⟩ = some (.int .i64 a0_0) := (blk_cell BK182.out 0).trans rfl
                         have hcz34_1 : wr.cell? ⟨gb182, 1, none⟩ = some (.slice A0_1 l0_1.length c0_1) := (blk_cell BK182.out 1).trans rfl
                         have hfz34_0 := blk_frozen BK182.out 0
                         have hfz34_1 := blk_frozen BK182.out 1
                         obtain ⟨Ao35, co35, eo35⟩ := Kd.R_slice HO_4.out
                         subst eo35
                         have p191 : 0 ≤ (x7_2 : Int) := of_decide_eq_true (by first | (with_reducible assumption) | assumption)
                         have q191 : x7_2 < (x4_1.length : Int) := of_decide_eq_true (by first | (with_reducible assumption) | assumption)
                         obtain ⟨ad191, e191, hx191_0⟩ := Kd.at_bool (Kd.R_reads' HO_4.out).2.2 x7_2 p191 q191
                         (try rw [← Nbq30.out] at hx191_0)
                         cases e191
                         replace p191 := eq_true p191
                         replace q191 := eq_true q191
                         go_wp2
                         go_roundg k2
                         case measure => have := HK1.out; have := HK2.out; omega
                         case rel => exact ⟨(wrap64 (x6_2 + 1)), (wrap64 (x7_2 + 1)), (by first | rfl | (simp; done) | (simp [*]; done)), (by first | rfl | (simp; done) | (simp [*]; done)), H', ⟨by have := HK1.out; have := HK2.out; omega⟩, ⟨by (with_reducible repeat (first | apply Kd.R_alloc | apply Kd.R_drewN | apply Kd.R_drew)); exact HO_4.out⟩, ⟨by (with_reducible repeat (first | refine blk_drewN ?_ _ | refine blk_drew ?_ | refine blk_alloc ?_ _)); exact BK182.out⟩, ⟨by repeat (first | (with_reducible first | exact HB.out | apply below_alloc | apply pw_below_drewN | apply below_drew1 | refine below_set ?_ GE182.out) | exact HB.out)⟩⟩
                     · rw [if_neg c29] at H
                       exact absurd H (by simp)
                   · rw [if_neg c28] at H
                     exact absurd H (by simp)
                 · rw [if_neg c27] at H
                   have c27b0 : decide (x7_2 < a0_0) = false := decide_eq_false c27
                   clear c27
                   simp only [Option.some.injEq, Prod.mk.injEq] at H
                   obtain ⟨rfl, rfl⟩ := H
                   have hcz36_0 : wr.cell? ⟨gb182, 0, none⟩ = some (.int .i64 a0_0) := (blk_cell BK182.out 0).trans rfl
                   have hcz36_1 : wr.cell? ⟨gb182, 1, none⟩ = some (.slice A0_1 l0_1.length c0_1) := (blk_cell BK182.out 1).trans rfl
                   have hfz36_0 := blk_frozen BK182.out 0
                   have hfz36_1 := blk_frozen BK182.out 1
                   go_wp2
                   go_ret2
                   exact ⟨by first | rfl | (simp [errW_none, errW_some] <;> rfl) | (simp [*, errW_none, errW_some] <;> rfl), by repeat (first | (with_reducible first | exact HB.out | apply below_alloc | apply pw_below_drewN | apply below_drew1 | refine below_set ?_ GE182.out) | exact HB.out)⟩
     · rw [if_neg c5] at H
       exact absurd H (by simp)
   · rw [if_neg c4] at H
     exact absurd H (by simp)
 · replace c3 := Bool.eq_false_iff.mpr c3
   subst c3
   have H1 : (some (0, 1)) = some (r1, r2) := by rw [if_neg (show ¬ (false = true) by decide)] at H; exact H
   clear H
   have H := H1
   clear H1
   simp only [Option.some.injEq, Prod.mk.injEq] at H
   obtain ⟨rfl, rfl⟩ := H
   go_enter Try.func33, Try.ntmps33
   go_wp2_with (first | ((with_reducible refine gate_dst (N := 1) rfl ?_); refine box_event ?hg (N := 1) ?hd (cs := #[.int .i64 a0_0, .slice A0_1 l0_1.length c0_1]) (t := 24) ?hr ?_; (case hd => rfl); (case hg => rfl); (case hr => first | (go_simp; done) | (go_simp; rfl)); intro gb182 hg w37 hbox hb; have n0_ := Aside0.mk (below_step (by repeat (first | (with_reducible first | exact HB.out | apply below_alloc | apply pw_below_drewN | apply below_drew1) | exact HB.out)) hb); have n1_ := Aside0.mk (hbox); have n2_ := Aside0.mk ((by rw [hg]; exact (below_size (by repeat (first | (with_reducible first | exact HB.out | apply below_alloc | apply pw_below_drewN | apply below_drew1) | exact HB.out))) : w.heap.size ≤ gb182)); have n3_ := Aside0.mk ((by rw [hg]; exact (below_size (by repeat (first | (with_reducible first | exact HB.out | apply below_alloc | apply pw_below_drewN | apply below_drew1) | exact HB.out))) : w.heap.size ≤ gb182)); clear HB; have HB := n0_; have BK182 := n1_; have GW182 := n2_; have GE182 := n3_; clear n0_ n1_ n2_ n3_; clear hb hbox hg; have hcz38_0 : w37.cell? ⟨gb182, 0, none⟩ = some (.int .i64 a0_0) := (blk_cell BK182.out 0).trans rfl; have hcz38_1 : w37.cell? ⟨gb182, 1, none⟩ = some (.slice A0_1 l0_1.length c0_1) := (blk_cell BK182.out 1).trans rfl; have hfz38_0 := blk_frozen BK182.out 0; have hfz38_1 := blk_frozen BK182.out 1) | ((with_reducible refine gate_callee (f := 47) rfl ?_); refine goesL_ (some 9) rfl rfl Try.func47 (by kernel_rfl) rfl #[.agg #[.int .i64 a0_0, .slice A0_1 l0_1.length c0_1]] rfl (by (try simp only [List.map_toArray, List.map_cons, List.map_nil]); first | done | rfl | (simp only [List.length_drop, List.length_take]; rfl)) ?_; (with_reducible refine (tangramref03_Valid.calls k a0_0 _ _ l0_1 false _ ?side1 ?side2 A2.out).mono ?_); (case side1 => repeat (first | exact (Kd.C_below HR0_1.out HB.out) | (with_reducible refine Kd.C_alloc ?_ _) | (with_reducible refine Kd.C_drewN ?_ _) | (with_reducible refine Kd.C_drew ?_))); (case side2 => exact HC0_1.out); rintro e w39 ⟨rfl, hb⟩; refine ⟨_, rfl, ?_⟩; have n0_ := Aside0.mk (blk_below (g := gb182) (o := .cells #[.int .i64 a0_0, .slice A0_1 l0_1.length c0_1] 24 (0, 0)) (by (with_reducible repeat (first | refine blk_drewN ?_ _ | refine blk_drew ?_ | refine blk_alloc ?_ _)); exact BK182.out) hb); have n1_ := Aside0.mk (below_step (by repeat (first | (with_reducible first | exact HB.out | apply below_alloc | apply pw_below_drewN | apply below_drew1 | refine below_set ?_ GE182.out) | exact HB.out)) hb); clear BK182; clear HB; have BK182 := n0_; have HB := n1_; clear n0_ n1_; (try clear hb); (try clear hb2); (try clear hk); (try clear hi)))
   go_ret2
   exact ⟨by first | rfl | (simp [errW_none, errW_some] <;> rfl) | (simp [*, errW_none, errW_some] <;> rfl), by repeat (first | (with_reducible first | exact HB.out | apply below_alloc | apply pw_below_drewN | apply below_drew1 | refine below_set ?_ GE182.out) | exact HB.out)⟩
end Go.Proofs.Ytmikcfddipldnaa.GAll
namespace Go.Proofs.Ytmikcfddipldnaa.GAll
open Go.RowKit Go.Proofs.YtmikcfddipldnaaW.PrintWords Go.Proofs.YtmikcfddipldnaaW.PrintLast Go.Proofs.YtmikcfddipldnaaW.PrintMore
attribute [local go_sem] max2_int min2_int max_two min_two max_three min_three max_four min_four   -- for this text's walks alone
set_option linter.unusedVariables false
set_option linter.unusedSimpArgs false
def tangramref12_Genus.f (k : Nat) (a0_0 : Int) (l0_1 : List (S56)) (l1 : List (List Int)) : Option (Int × Int) := (tangramref12_Of.f k a0_0 l0_1 l1).bind fun bt193 => (if bt193.2 = 0 then ((tangramref05_Of.f k a0_0 l0_1).bind fun bt197 => ((tangramref05_Isolated.f k a0_0 l0_1).bind fun bt202 => (some (wrap64 (Int.tdiv (wrap64 ((wrap64 ((wrap64 ((wrap64 ((wrap64 (2 * bt197.2.1)) - bt202.1)) - a0_0)) + (l0_1.length : Int))) - (bt193.1.length : Int))) 2), 0)))) else (some (0, bt193.2)))
theorem tangramref12_Genus.mono : ∀ a0 a1 a2 k, LeO (tangramref12_Genus.f k a0 a1 a2) (tangramref12_Genus.f (k + 1) a0 a1 a2) := by
 intro a0 a1 a2 k
 unfold tangramref12_Genus.f
 repeat' first
     | (with_reducible exact tangramref05_Isolated.mono _ _ _)
     | (with_reducible exact tangramref05_Of.mono _ _ _)
     | (with_reducible exact tangramref12_Of.mono _ _ _ _)
     | (with_reducible exact LeO.refl _)
     | (with_reducible exact LeO.none _)
     | (with_reducible refine LeO.ite ?_ ?_)
     | (with_reducible refine LeO.bind ?_ (fun _ => ?_))
     | exact tangramref05_Isolated.mono _ _ _
     | exact tangramref05_Of.mono _ _ _
     | exact tangramref12_Of.mono _ _ _ _
     | exact LeO.none _
     | refine LeO.ite ?_ ?_
     | refine LeO.bind ?_ (fun _ => ?_)
set_option maxHeartbeats 8000000 in
set_option maxRecDepth 100000 in
theorem tangramref12_Genus.calls (k : Nat) (a0_0 : Int) (A0_1 : Option Addr) (c0_1 : Nat) (l0_1 : List (S56)) (A1 : Option Addr) (c1 : Nat) (l1 : List (List Int)) (r1 : Int) (r2 : Int) (w : World) (hr0_1 : Kd.C k56 w A0_1 l0_1.length l0_1) (hc0_1 : l0_1.length ≤ c0_1) (hr1 : Kd.C (Kd.slice 3 (Kd.int .i64)) w A1 l1.length l1) (hc1 : l1.length ≤ c1) (h : tangramref12_Genus.f k a0_0 l0_1 l1 = some (r1, r2)) :
   Calls Try.prog 19 #[.agg #[.int .i64 a0_0, .slice A0_1 l0_1.length c0_1], .slice A1 l1.length c1] w fun e w' => e = .returned (.tuple #[.int .i64 r1, .int .i64 r2]) ∧ Below w.heap.size w w' := by
 have hu24 := Try.underlying24
 have HR0_1 := Aside0.mk hr0_1
 have HC0_1 := Aside0.mk hc0_1
 clear hr0_1 hc0_1
 have HR1 := Aside0.mk hr1
 have HC1 := Aside0.mk hc1
 clear hr1 hc1
 have HB := Aside0.mk (Below.refl w.heap.size w)
 have H : ((tangramref12_Of.f k a0_0 l0_1 l1).bind fun bt193 => (if bt193.2 = 0 then ((tangramref05_Of.f k a0_0 l0_1).bind fun bt197 => ((tangramref05_Isolated.f k a0_0 l0_1).bind fun bt202 => (some (wrap64 (Int.tdiv (wrap64 ((wrap64 ((wrap64 ((wrap64 ((wrap64 (2 * bt197.2.1)) - bt202.1)) - a0_0)) + (l0_1.length : Int))) - (bt193.1.length : Int))) 2), 0)))) else (some (0, bt193.2)))) = some (r1, r2) := h
 clear h
 replace H := Option.bind_eq_some_iff.mp H
 obtain ⟨⟨t193, t196⟩, A30, H⟩ := H
 replace H : (if t196 = 0 then ((tangramref05_Of.f k a0_0 l0_1).bind fun bt197 => ((tangramref05_Isolated.f k a0_0 l0_1).bind fun bt202 => (some (wrap64 (Int.tdiv (wrap64 ((wrap64 ((wrap64 ((wrap64 ((wrap64 (2 * bt197.2.1)) - bt202.1)) - a0_0)) + (l0_1.length : Int))) - (t193.length : Int))) 2), 0)))) else (some (0, t196))) = some (r1, r2) := H
 have A3 := Aside0.mk A30
 clear A30
 by_cases c4 : t196 = 0
 · rw [if_pos c4] at H
   have c4b0 : (t196 == 0) = true := beq_iff_eq.mpr c4
   have c4b1 : (t196 != 0) = false := bne_eq_false_iff_eq.mpr c4
   clear c4
   replace H := Option.bind_eq_some_iff.mp H
   obtain ⟨⟨t197, t200, t201⟩, A50, H⟩ := H
   replace H : ((tangramref05_Isolated.f k a0_0 l0_1).bind fun bt202 => (some (wrap64 (Int.tdiv (wrap64 ((wrap64 ((wrap64 ((wrap64 ((wrap64 (2 * t200)) - bt202.1)) - a0_0)) + (l0_1.length : Int))) - (t193.length : Int))) 2), 0))) = some (r1, r2) := H
   have A5 := Aside0.mk A50
   clear A50
   replace H := Option.bind_eq_some_iff.mp H
   obtain ⟨⟨t202, t203⟩, A60, H⟩ := H
   replace H : (some (wrap64 (Int.tdiv (wrap64 ((wrap64 ((wrap64 ((wrap64 ((wrap64 (2 * t200)) - t202)) - a0_0)) + (l0_1.length : Int))) - (t193.length : Int))) 2), 0)) = some (r1, r2) := H
   have A6 := Aside0.mk A60
   clear A60
   simp only [Option.some.injEq, Prod.mk.injEq] at H
   obtain ⟨rfl, rfl⟩ := H
   go_enter Try.func19, Try.ntmps19
   go_wp2_with (first | ((with_reducible refine gate_dst (N := 2) rfl ?_); refine box_event ?hg (N := 2) ?hd (cs := #[.int .i64 a0_0, .slice A0_1 l0_1.length c0_1]) (t := 24) ?hr ?_; (case hd => rfl); (case hg => rfl); (case hr => first | (go_simp; done) | (go_simp; rfl)); intro gb192 hg w7 hbox hb; have n0_ := Aside0.mk (below_step (by repeat (first | (with_reducible first | exact HB.out | apply below_alloc | apply pw_below_drewN | apply below_drew1) | exact HB.out)) hb); have n1_ := Aside0.mk (hbox); have n2_ := Aside0.mk ((by rw [hg]; exact (below_size (by repeat (first | (with_reducible first | exact HB.out | apply below_alloc | apply pw_below_drewN | apply below_drew1) | exact HB.out))) : w.heap.size ≤ gb192)); have n3_ := Aside0.mk ((by rw [hg]; exact (below_size (by repeat (first | (with_reducible first | exact HB.out | apply below_alloc | apply pw_below_drewN | apply below_drew1) | exact HB.out))) : w.heap.size ≤ gb192)); clear HB; have HB := n0_; have BK192 := n1_; have GW192 := n2_; have GE192 := n3_; clear n0_ n1_ n2_ n3_; clear hb hbox hg; have hcz8_0 : w7.cell? ⟨gb192, 0, none⟩ = some (.int .i64 a0_0) := (blk_cell BK192.out 0).trans rfl; have hcz8_1 : w7.cell? ⟨gb192, 1, none⟩ = some (.slice A0_1 l0_1.length c0_1) := (blk_cell BK192.out 1).trans rfl; have hfz8_0 := blk_frozen BK192.out 0; have hfz8_1 := blk_frozen BK192.out 1) | ((with_reducible refine gate_callee (f := 13) rfl ?_); refine goesL_ (some 16) rfl rfl Try.func13 (by kernel_rfl) rfl #[.agg #[.int .i64 a0_0, .slice A0_1 l0_1.length c0_1], .slice A1 l1.length c1] rfl (by (try simp only [List.map_toArray, List.map_cons, List.map_nil]); first | done | rfl | (simp only [List.length_drop, List.length_take]; rfl)) ?_; (with_reducible refine (tangramref12_Of.calls k a0_0 _ _ l0_1 _ _ l1 t193 t196 _ ?side1 ?side2 ?side3 ?side4 A3.out).mono ?_); (case side1 => repeat (first | exact (Kd.C_below HR0_1.out HB.out) | (with_reducible refine Kd.C_alloc ?_ _) | (with_reducible refine Kd.C_drewN ?_ _) | (with_reducible refine Kd.C_drew ?_))); (case side2 => exact HC0_1.out); (case side3 => repeat (first | exact (Kd.C_below HR1.out HB.out) | (with_reducible refine Kd.C_alloc ?_ _) | (with_reducible refine Kd.C_drewN ?_ _) | (with_reducible refine Kd.C_drew ?_))); (case side4 => exact HC1.out); rintro e w9 ⟨v194, rfl, ho0, hb⟩; refine ⟨_, rfl, ?_⟩; have n0_ := Aside0.mk (Kd.S_lower ho0 (below_size (by repeat (first | (with_reducible first | exact HB.out | apply below_alloc | apply pw_below_drewN | apply below_drew1 | refine below_set ?_ GE192.out) | exact HB.out)))); have n1_ := Aside0.mk (blk_below (g := gb192) (o := .cells #[.int .i64 a0_0, .slice A0_1 l0_1.length c0_1] 24 (0, 0)) (by (with_reducible repeat (first | refine blk_drewN ?_ _ | refine blk_drew ?_ | refine blk_alloc ?_ _)); exact BK192.out) hb); have n2_ := Aside0.mk (below_step (by repeat (first | (with_reducible first | exact HB.out | apply below_alloc | apply pw_below_drewN | apply below_drew1 | refine below_set ?_ GE192.out) | exact HB.out)) hb); clear BK192; clear HB; have HO195 := n0_; have BK192 := n1_; have HB := n2_; clear n0_ n1_ n2_; (try clear hb); (try clear hb2); (try clear hk); (try clear hi); (try clear ho0); have hcz10_0 : w9.cell? ⟨gb192, 0, none⟩ = some (.int .i64 a0_0) := (blk_cell BK192.out 0).trans rfl; have hcz10_1 : w9.cell? ⟨gb192, 1, none⟩ = some (.slice A0_1 l0_1.length c0_1) := (blk_cell BK192.out 1).trans rfl; have hfz10_0 := blk_frozen BK192.out 0; have hfz10_1 := blk_frozen BK192.out 1) | ((with_reducible refine gate_callee (f := 32) rfl ?_); refine goesL_ (some 24) rfl rfl Try.func32 (by kernel_rfl) rfl #[.agg #[.int .i64 a0_0, .slice A0_1 l0_1.length c0_1]] rfl (by (try simp only [List.map_toArray, List.map_cons, List.map_nil]); first | done | rfl | (simp only [List.length_drop, List.length_take]; rfl)) ?_; (with_reducible refine (tangramref05_Of.calls k a0_0 _ _ l0_1 t197 t200 t201 _ ?side1 ?side2 A5.out).mono ?_); (case side1 => repeat (first | exact (Kd.C_below HR0_1.out HB.out) | (with_reducible refine Kd.C_alloc ?_ _) | (with_reducible refine Kd.C_drewN ?_ _) | (with_reducible refine Kd.C_drew ?_))); (case side2 => exact HC0_1.out); rintro e w11 ⟨v198, rfl, ho0, hb⟩; refine ⟨_, rfl, ?_⟩; have n0_ := Aside0.mk (Kd.S_elder' (by (with_reducible repeat (first | apply Kd.S_alloc | apply Kd.S_drewN | apply Kd.S_drew)); exact HO195.out) (Kd.R_base ho0) hb); have n1_ := Aside0.mk (Kd.R_lower ho0 (below_size (by repeat (first | (with_reducible first | exact HB.out | apply below_alloc | apply pw_below_drewN | apply below_drew1 | refine below_set ?_ GE192.out) | exact HB.out)))); have n2_ := Aside0.mk (blk_below (g := gb192) (o := .cells #[.int .i64 a0_0, .slice A0_1 l0_1.length c0_1] 24 (0, 0)) (by (with_reducible repeat (first | refine blk_drewN ?_ _ | refine blk_drew ?_ | refine blk_alloc ?_ _)); exact BK192.out) hb); have n3_ := Aside0.mk (below_step (by repeat (first | (with_reducible first | exact HB.out | apply below_alloc | apply pw_below_drewN | apply below_drew1 | refine below_set ?_ GE192.out) | exact HB.out)) hb); clear HO195; clear BK192; clear HB; have HO195 := n0_; have HO199 := n1_; have BK192 := n2_; have HB := n3_; clear n0_ n1_ n2_ n3_; (try clear hb); (try clear hb2); (try clear hk); (try clear hi); (try clear ho0); have hcz12_0 : w11.cell? ⟨gb192, 0, none⟩ = some (.int .i64 a0_0) := (blk_cell BK192.out 0).trans rfl; have hcz12_1 : w11.cell? ⟨gb192, 1, none⟩ = some (.slice A0_1 l0_1.length c0_1) := (blk_cell BK192.out 1).trans rfl; have hfz12_0 := blk_frozen BK192.out 0; have hfz12_1 := blk_frozen BK192.out 1) | ((with_reducible refine gate_callee (f := 33) rfl ?_); refine goesL_ (some 30) rfl rfl Try.func33 (by kernel_rfl) rfl #[.agg #[.int .i64 a0_0, .slice A0_1 l0_1.length c0_1]] rfl (by (try simp only [List.map_toArray, List.map_cons, List.map_nil]); first | done | rfl | (simp only [List.length_drop, List.length_take]; rfl)) ?_; (with_reducible refine (tangramref05_Isolated.calls k a0_0 _ _ l0_1 t202 t203 _ ?side1 ?side2 A6.out).mono ?_); (case side1 => repeat (first | exact (Kd.C_below HR0_1.out HB.out) | (with_reducible refine Kd.C_alloc ?_ _) | (with_reducible refine Kd.C_drewN ?_ _) | (with_reducible refine Kd.C_drew ?_))); (case side2 => exact HC0_1.out); rintro e w13 ⟨rfl, hb⟩; refine ⟨_, rfl, ?_⟩; have n0_ := Aside0.mk (Kd.S_below (by (with_reducible repeat (first | apply Kd.S_alloc | apply Kd.S_drewN | apply Kd.S_drew)); exact HO195.out) hb); have n1_ := Aside0.mk (Kd.R_below (by (with_reducible repeat (first | apply Kd.R_alloc | apply Kd.R_drewN | apply Kd.R_drew)); exact HO199.out) hb); have n2_ := Aside0.mk (blk_below (g := gb192) (o := .cells #[.int .i64 a0_0, .slice A0_1 l0_1.length c0_1] 24 (0, 0)) (by (with_reducible repeat (first | refine blk_drewN ?_ _ | refine blk_drew ?_ | refine blk_alloc ?_ _)); exact BK192.out) hb); have n3_ := Aside0.mk (below_step (by repeat (first | (with_reducible first | exact HB.out | apply below_alloc | apply pw_below_drewN | apply below_drew1 | refine below_set ?_ GE192.out) | exact HB.out)) hb); clear HO195; clear HO199; clear BK192; clear HB; have HO195 := n0_; have HO199 := n1_; have BK192 := n2_; have HB := n3_; clear n0_ n1_ n2_ n3_; (try clear hb); (try clear hb2); (try clear hk); (try clear hi); have hcz14_0 : w13.cell? ⟨gb192, 0, none⟩ = some (.int .i64 a0_0) := (blk_cell BK192.out 0).trans rfl; have hcz14_1 : w13.cell? ⟨gb192, 1, none⟩ = some (.slice A0_1 l0_1.length c0_1) := (blk_cell BK192.out 1).trans rfl; have hfz14_0 := blk_frozen BK192.out 0; have hfz14_1 := blk_frozen BK192.out 1; obtain ⟨Ao15, co15, eo15⟩ := Kd.S_slice HO195.out; subst eo15))
   go_ret2
   exact ⟨by first | rfl | (simp [errW_none, errW_some] <;> rfl) | (simp [*, errW_none, errW_some] <;> rfl), by repeat (first | (with_reducible first | exact HB.out | apply below_alloc | apply pw_below_drewN | apply below_drew1 | refine below_set ?_ GE192.out) | exact HB.out)⟩
 · rw [if_neg c4] at H
   have c4b0 : (t196 == 0) = false := beq_eq_false_iff_ne.mpr c4
   have c4b1 : (t196 != 0) = true := bne_iff_ne.mpr c4
   simp only [Option.some.injEq, Prod.mk.injEq] at H
   obtain ⟨rfl, rfl⟩ := H
   go_enter Try.func19, Try.ntmps19
   go_wp2_with (first | ((with_reducible refine gate_dst (N := 2) rfl ?_); refine box_event ?hg (N := 2) ?hd (cs := #[.int .i64 a0_0, .slice A0_1 l0_1.length c0_1]) (t := 24) ?hr ?_; (case hd => rfl); (case hg => rfl); (case hr => first | (go_simp; done) | (go_simp; rfl)); intro gb192 hg w16 hbox hb; have n0_ := Aside0.mk (below_step (by repeat (first | (with_reducible first | exact HB.out | apply below_alloc | apply pw_below_drewN | apply below_drew1) | exact HB.out)) hb); have n1_ := Aside0.mk (hbox); have n2_ := Aside0.mk ((by rw [hg]; exact (below_size (by repeat (first | (with_reducible first | exact HB.out | apply below_alloc | apply pw_below_drewN | apply below_drew1) | exact HB.out))) : w.heap.size ≤ gb192)); have n3_ := Aside0.mk ((by rw [hg]; exact (below_size (by repeat (first | (with_reducible first | exact HB.out | apply below_alloc | apply pw_below_drewN | apply below_drew1) | exact HB.out))) : w.heap.size ≤ gb192)); clear HB; have HB := n0_; have BK192 := n1_; have GW192 := n2_; have GE192 := n3_; clear n0_ n1_ n2_ n3_; clear hb hbox hg; have hcz17_0 : w16.cell? ⟨gb192, 0, none⟩ = some (.int .i64 a0_0) := (blk_cell BK192.out 0).trans rfl; have hcz17_1 : w16.cell? ⟨gb192, 1, none⟩ = some (.slice A0_1 l0_1.length c0_1) := (blk_cell BK192.out 1).trans rfl; have hfz17_0 := blk_frozen BK192.out 0; have hfz17_1 := blk_frozen BK192.out 1) | ((with_reducible refine gate_callee (f := 13) rfl ?_); refine goesL_ (some 16) rfl rfl Try.func13 (by kernel_rfl) rfl #[.agg #[.int .i64 a0_0, .slice A0_1 l0_1.length c0_1], .slice A1 l1.length c1] rfl (by (try simp only [List.map_toArray, List.map_cons, List.map_nil]); first | done | rfl | (simp only [List.length_drop, List.length_take]; rfl)) ?_; (with_reducible refine (tangramref12_Of.calls k a0_0 _ _ l0_1 _ _ l1 t193 t196 _ ?side1 ?side2 ?side3 ?side4 A3.out).mono ?_); (case side1 => repeat (first | exact (Kd.C_below HR0_1.out HB.out) | (with_reducible refine Kd.C_alloc ?_ _) | (with_reducible refine Kd.C_drewN ?_ _) | (with_reducible refine Kd.C_drew ?_))); (case side2 => exact HC0_1.out); (case side3 => repeat (first | exact (Kd.C_below HR1.out HB.out) | (with_reducible refine Kd.C_alloc ?_ _) | (with_reducible refine Kd.C_drewN ?_ _) | (with_reducible refine Kd.C_drew ?_))); (case side4 => exact HC1.out); rintro e w18 ⟨v194, rfl, ho0, hb⟩; refine ⟨_, rfl, ?_⟩; have n0_ := Aside0.mk (Kd.S_lower ho0 (below_size (by repeat (first | (with_reducible first | exact HB.out | apply below_alloc | apply pw_below_drewN | apply below_drew1 | refine below_set ?_ GE192.out) | exact HB.out)))); have n1_ := Aside0.mk (blk_below (g := gb192) (o := .cells #[.int .i64 a0_0, .slice A0_1 l0_1.length c0_1] 24 (0, 0)) (by (with_reducible repeat (first | refine blk_drewN ?_ _ | refine blk_drew ?_ | refine blk_alloc ?_ _)); exact BK192.out) hb); have n2_ := Aside0.mk (below_step (by repeat (first | (with_reducible first | exact HB.out | apply below_alloc | apply pw_below_drewN | apply below_drew1 | refine below_set ?_ GE192.out) | exact HB.out)) hb); clear BK192; clear HB; have HO195 := n0_; have BK192 := n1_; have HB := n2_; clear n0_ n1_ n2_; (try clear hb); (try clear hb2); (try clear hk); (try clear hi); (try clear ho0)))
   go_ret2
   exact ⟨by first | rfl | (simp [errW_none, errW_some] <;> rfl) | (simp [*, errW_none, errW_some] <;> rfl), by repeat (first | (with_reducible first | exact HB.out | apply below_alloc | apply pw_below_drewN | apply below_drew1 | refine below_set ?_ GE192.out) | exact HB.out)⟩
end Go.Proofs.Ytmikcfddipldnaa.GAll
namespace Go.Proofs.Ytmikcfddipldnaa.GAll
open Go.RowKit Go.Proofs.YtmikcfddipldnaaW.PrintWords Go.Proofs.YtmikcfddipldnaaW.PrintLast Go.Proofs.YtmikcfddipldnaaW.PrintMore
attribute [local go_sem] max2_int min2_int max_two min_two max_three min_three max_four min_four   -- for this text's walks alone
set_option linter.unusedVariables false
set_option linter.unusedSimpArgs false
def tangramref12_Flat.f (k : Nat) (a0_0 : Int) (l0_1 : List (S56)) (l1 : List (List Int)) : Option (Bool) := (tangramref12_Genus.f k a0_0 l0_1 l1).bind fun bt205 => (if bt205.2 = 0 then (some (bt205.1 == 0)) else (some false))
theorem tangramref12_Flat.mono : ∀ a0 a1 a2 k, LeO (tangramref12_Flat.f k a0 a1 a2) (tangramref12_Flat.f (k + 1) a0 a1 a2) := by
 intro a0 a1 a2 k
 unfold tangramref12_Flat.f
 repeat' first
     | (with_reducible exact tangramref12_Genus.mono _ _ _ _)
     | (with_reducible exact LeO.refl _)
     | (with_reducible exact LeO.none _)
     | (with_reducible refine LeO.ite ?_ ?_)
     | (with_reducible refine LeO.bind ?_ (fun _ => ?_))
     | exact tangramref12_Genus.mono _ _ _ _
     | exact LeO.none _
     | refine LeO.ite ?_ ?_
     | refine LeO.bind ?_ (fun _ => ?_)
set_option maxHeartbeats 8000000 in
set_option maxRecDepth 100000 in
theorem tangramref12_Flat.calls (k : Nat) (a0_0 : Int) (A0_1 : Option Addr) (c0_1 : Nat) (l0_1 : List (S56)) (A1 : Option Addr) (c1 : Nat) (l1 : List (List Int)) (r : Bool) (w : World) (hr0_1 : Kd.C k56 w A0_1 l0_1.length l0_1) (hc0_1 : l0_1.length ≤ c0_1) (hr1 : Kd.C (Kd.slice 3 (Kd.int .i64)) w A1 l1.length l1) (hc1 : l1.length ≤ c1) (h : tangramref12_Flat.f k a0_0 l0_1 l1 = some r) :
   Calls Try.prog 21 #[.agg #[.int .i64 a0_0, .slice A0_1 l0_1.length c0_1], .slice A1 l1.length c1] w fun e w' => e = .returned (.bool r) ∧ Below w.heap.size w w' := by
 have hu24 := Try.underlying24
 have HR0_1 := Aside0.mk hr0_1
 have HC0_1 := Aside0.mk hc0_1
 clear hr0_1 hc0_1
 have HR1 := Aside0.mk hr1
 have HC1 := Aside0.mk hc1
 clear hr1 hc1
 have HB := Aside0.mk (Below.refl w.heap.size w)
 have H : ((tangramref12_Genus.f k a0_0 l0_1 l1).bind fun bt205 => (if bt205.2 = 0 then (some (bt205.1 == 0)) else (some false))) = some r := h
 clear h
 replace H := Option.bind_eq_some_iff.mp H
 obtain ⟨⟨t205, t206⟩, A30, H⟩ := H
 replace H : (if t206 = 0 then (some (t205 == 0)) else (some false)) = some r := H
 have A3 := Aside0.mk A30
 clear A30
 by_cases c4 : t206 = 0
 · rw [if_pos c4] at H
   have c4b0 : (t206 == 0) = true := beq_iff_eq.mpr c4
   have c4b1 : (t206 != 0) = false := bne_eq_false_iff_eq.mpr c4
   clear c4
   obtain rfl := Option.some.inj H
   go_enter Try.func21, Try.ntmps21
   go_wp2_with (first | ((with_reducible refine gate_dst (N := 2) rfl ?_); refine box_event ?hg (N := 2) ?hd (cs := #[.int .i64 a0_0, .slice A0_1 l0_1.length c0_1]) (t := 24) ?hr ?_; (case hd => rfl); (case hg => rfl); (case hr => first | (go_simp; done) | (go_simp; rfl)); intro gb204 hg w5 hbox hb; have n0_ := Aside0.mk (below_step (by repeat (first | (with_reducible first | exact HB.out | apply below_alloc | apply pw_below_drewN | apply below_drew1) | exact HB.out)) hb); have n1_ := Aside0.mk (hbox); have n2_ := Aside0.mk ((by rw [hg]; exact (below_size (by repeat (first | (with_reducible first | exact HB.out | apply below_alloc | apply pw_below_drewN | apply below_drew1) | exact HB.out))) : w.heap.size ≤ gb204)); have n3_ := Aside0.mk ((by rw [hg]; exact (below_size (by repeat (first | (with_reducible first | exact HB.out | apply below_alloc | apply pw_below_drewN | apply below_drew1) | exact HB.out))) : w.heap.size ≤ gb204)); clear HB; have HB := n0_; have BK204 := n1_; have GW204 := n2_; have GE204 := n3_; clear n0_ n1_ n2_ n3_; clear hb hbox hg; have hcz6_0 : w5.cell? ⟨gb204, 0, none⟩ = some (.int .i64 a0_0) := (blk_cell BK204.out 0).trans rfl; have hcz6_1 : w5.cell? ⟨gb204, 1, none⟩ = some (.slice A0_1 l0_1.length c0_1) := (blk_cell BK204.out 1).trans rfl; have hfz6_0 := blk_frozen BK204.out 0; have hfz6_1 := blk_frozen BK204.out 1) | ((with_reducible refine gate_callee (f := 19) rfl ?_); refine goesL_ (some 10) rfl rfl Try.func19 (by kernel_rfl) rfl #[.agg #[.int .i64 a0_0, .slice A0_1 l0_1.length c0_1], .slice A1 l1.length c1] rfl (by (try simp only [List.map_toArray, List.map_cons, List.map_nil]); first | done | rfl | (simp only [List.length_drop, List.length_take]; rfl)) ?_; (with_reducible refine (tangramref12_Genus.calls k a0_0 _ _ l0_1 _ _ l1 t205 t206 _ ?side1 ?side2 ?side3 ?side4 A3.out).mono ?_); (case side1 => repeat (first | exact (Kd.C_below HR0_1.out HB.out) | (with_reducible refine Kd.C_alloc ?_ _) | (with_reducible refine Kd.C_drewN ?_ _) | (with_reducible refine Kd.C_drew ?_))); (case side2 => exact HC0_1.out); (case side3 => repeat (first | exact (Kd.C_below HR1.out HB.out) | (with_reducible refine Kd.C_alloc ?_ _) | (with_reducible refine Kd.C_drewN ?_ _) | (with_reducible refine Kd.C_drew ?_))); (case side4 => exact HC1.out); rintro e w7 ⟨rfl, hb⟩; refine ⟨_, rfl, ?_⟩; have n0_ := Aside0.mk (blk_below (g := gb204) (o := .cells #[.int .i64 a0_0, .slice A0_1 l0_1.length c0_1] 24 (0, 0)) (by (with_reducible repeat (first | refine blk_drewN ?_ _ | refine blk_drew ?_ | refine blk_alloc ?_ _)); exact BK204.out) hb); have n1_ := Aside0.mk (below_step (by repeat (first | (with_reducible first | exact HB.out | apply below_alloc | apply pw_below_drewN | apply below_drew1 | refine below_set ?_ GE204.out) | exact HB.out)) hb); clear BK204; clear HB; have BK204 := n0_; have HB := n1_; clear n0_ n1_; (try clear hb); (try clear hb2); (try clear hk); (try clear hi)))
   go_ret
   exact ⟨by first | rfl | (simp [errW_none, errW_some] <;> rfl) | (simp [*, errW_none, errW_some] <;> rfl), by repeat (first | (with_reducible first | exact HB.out | apply below_alloc | apply pw_below_drewN | apply below_drew1 | refine below_set ?_ GE204.out) | exact HB.out)⟩
 · rw [if_neg c4] at H
   have c4b0 : (t206 == 0) = false := beq_eq_false_iff_ne.mpr c4
   have c4b1 : (t206 != 0) = true := bne_iff_ne.mpr c4
   obtain rfl := Option.some.inj H
   go_enter Try.func21, Try.ntmps21
   go_wp2_with (first | ((with_reducible refine gate_dst (N := 2) rfl ?_); refine box_event ?hg (N := 2) ?hd (cs := #[.int .i64 a0_0, .slice A0_1 l0_1.length c0_1]) (t := 24) ?hr ?_; (case hd => rfl); (case hg => rfl); (case hr => first | (go_simp; done) | (go_simp; rfl)); intro gb204 hg w8 hbox hb; have n0_ := Aside0.mk (below_step (by repeat (first | (with_reducible first | exact HB.out | apply below_alloc | apply pw_below_drewN | apply below_drew1) | exact HB.out)) hb); have n1_ := Aside0.mk (hbox); have n2_ := Aside0.mk ((by rw [hg]; exact (below_size (by repeat (first | (with_reducible first | exact HB.out | apply below_alloc | apply pw_below_drewN | apply below_drew1) | exact HB.out))) : w.heap.size ≤ gb204)); have n3_ := Aside0.mk ((by rw [hg]; exact (below_size (by repeat (first | (with_reducible first | exact HB.out | apply below_alloc | apply pw_below_drewN | apply below_drew1) | exact HB.out))) : w.heap.size ≤ gb204)); clear HB; have HB := n0_; have BK204 := n1_; have GW204 := n2_; have GE204 := n3_; clear n0_ n1_ n2_ n3_; clear hb hbox hg; have hcz9_0 : w8.cell? ⟨gb204, 0, none⟩ = some (.int .i64 a0_0) := (blk_cell BK204.out 0).trans rfl; have hcz9_1 : w8.cell? ⟨gb204, 1, none⟩ = some (.slice A0_1 l0_1.length c0_1) := (blk_cell BK204.out 1).trans rfl; have hfz9_0 := blk_frozen BK204.out 0; have hfz9_1 := blk_frozen BK204.out 1) | ((with_reducible refine gate_callee (f := 19) rfl ?_); refine goesL_ (some 10) rfl rfl Try.func19 (by kernel_rfl) rfl #[.agg #[.int .i64 a0_0, .slice A0_1 l0_1.length c0_1], .slice A1 l1.length c1] rfl (by (try simp only [List.map_toArray, List.map_cons, List.map_nil]); first | done | rfl | (simp only [List.length_drop, List.length_take]; rfl)) ?_; (with_reducible refine (tangramref12_Genus.calls k a0_0 _ _ l0_1 _ _ l1 t205 t206 _ ?side1 ?side2 ?side3 ?side4 A3.out).mono ?_); (case side1 => repeat (first | exact (Kd.C_below HR0_1.out HB.out) | (with_reducible refine Kd.C_alloc ?_ _) | (with_reducible refine Kd.C_drewN ?_ _) | (with_reducible refine Kd.C_drew ?_))); (case side2 => exact HC0_1.out); (case side3 => repeat (first | exact (Kd.C_below HR1.out HB.out) | (with_reducible refine Kd.C_alloc ?_ _) | (with_reducible refine Kd.C_drewN ?_ _) | (with_reducible refine Kd.C_drew ?_))); (case side4 => exact HC1.out); rintro e w10 ⟨rfl, hb⟩; refine ⟨_, rfl, ?_⟩; have n0_ := Aside0.mk (blk_below (g := gb204) (o := .cells #[.int .i64 a0_0, .slice A0_1 l0_1.length c0_1] 24 (0, 0)) (by (with_reducible repeat (first | refine blk_drewN ?_ _ | refine blk_drew ?_ | refine blk_alloc ?_ _)); exact BK204.out) hb); have n1_ := Aside0.mk (below_step (by repeat (first | (with_reducible first | exact HB.out | apply below_alloc | apply pw_below_drewN | apply below_drew1 | refine below_set ?_ GE204.out) | exact HB.out)) hb); clear BK204; clear HB; have BK204 := n0_; have HB := n1_; clear n0_ n1_; (try clear hb); (try clear hb2); (try clear hk); (try clear hi)))
   go_ret
   exact ⟨by first | rfl | (simp [errW_none, errW_some] <;> rfl) | (simp [*, errW_none, errW_some] <;> rfl), by repeat (first | (with_reducible first | exact HB.out | apply below_alloc | apply pw_below_drewN | apply below_drew1 | refine below_set ?_ GE204.out) | exact HB.out)⟩
end Go.Proofs.Ytmikcfddipldnaa.GAll
namespace Go.Proofs.Ytmikcfddipldnaa.Rot
open Go.RowKit Go.Proofs.YtmikcfddipldnaaW.PrintWords Go.Proofs.YtmikcfddipldnaaW.PrintLast Go.Proofs.YtmikcfddipldnaaW.PrintMore Go.Proofs.Ytmikcfddipldnaa.GAll Go.Proofs.Ytmikcfddipldnaa.Mem Go.Proofs.Ytmikcfddipldnaa.Ring Go.Proofs.Ytmikcfddipldnaa.Face
set_option linter.unusedVariables false
set_option linter.unusedSimpArgs false
section
variable {n : Nat} {l : List Ed} {r : List (List Int)}
theorem comps_ev (hg : PureV.Good (n : Int) l) : Ev (fun k => comps_Of.f k (n : Int) l) (ogOf n l, (parts n l : Int), 0) := by
 obtain ⟨b, h1, h2, h3⟩ := PureV.valid (n : Int) l
 rw [h3.2 hg] at h1
 unfold comps_Of.f
 exact Ev.bind h1 (Ev.congr (fun k => if_pos rfl) (Ev.congr (fun k => if_pos ⟨hg.1, hg.2.1⟩) (Ev.now _)))
theorem refcomps_ev (hg : PureV.Good (n : Int) l) : Ev (fun k => tangramref05_Of.f k (n : Int) l) (ogOf n l, (parts n l : Int), 0) := by
 obtain ⟨b, h1, h2, h3⟩ := PureV.valid (n : Int) l
 rw [h3.2 hg] at h2
 unfold tangramref05_Of.f
 refine Ev.bind h2 (Ev.congr (fun k => if_pos rfl) (Ev.congr (fun k => if_pos ?_) (Ev.now _)))
 obtain ⟨g1, g2, g3, g4⟩ := hg
 unfold tangramref05_Of.fit
 simp only [Bool.and_eq_true, decide_eq_true_eq, List.all_eq_true]
 refine ⟨⟨⟨g1, g2⟩, g3⟩, fun x hx => ?_⟩
 obtain ⟨i, hi, rfl⟩ := List.getElem_of_mem hx
 obtain ⟨⟨e1, e2, e3⟩, _⟩ := g4 i hi
 have e : PureV.rdE l (i : Nat) = l[i] := by
   show l.getD ((i : Int).toNat) _ = _
   rw [Int.toNat_natCast, List.getD_eq_getElem?_getD, List.getElem?_eq_getElem hi]
   rfl
 rw [e] at e1 e2 e3
 exact ⟨⟨⟨by omega, by omega⟩, by omega⟩, by omega⟩
theorem parts_le (hg : PureV.Good (n : Int) l) : parts n l ≤ n := by
 rw [parts_sets]
 have h := Sets.sets_le (parT n l l.length)
 have := (parT_part n l l.length).len
 omega
theorem IsMap.fitG (hm : IsMap n l r) : Cnt.fitB (ogOf n l) (ends l) (facesL (stOf l r)) (parts n l) = true := by
 obtain ⟨F, e, hF⟩ := hm.faces
 have hc := hm.comp
 have hl := hm.lists
 have hp := parts_le hm.good
 have hg := hm.good
 refine Cnt.fit_of.2 ⟨by have := hg.2.1; omega, by rw [hc.len]; have := hg.2.1; omega, by rw [ends_length]; exact hg.2.2.1, hl.1, hc.key, fun j hj => ?_, fun q hq => ?_⟩
 · rw [ends_length] at hj
   obtain ⟨⟨a, b, c⟩, _⟩ := hg.2.2.2 j hj
   rw [pe_ends hj, hc.len]
   simp only
   omega
 · rw [e, List.length_map] at hq
   have e2 : gl (facesL (stOf l r)) q = zN F[q] := by
     rw [e]
     unfold gl
     rw [List.getD_eq_getElem?_getD, List.getElem?_map, List.getElem?_eq_getElem hq]
     rfl
   rw [e2]
   have hL : F[q] ∈ F := List.getElem_mem hq
   have hr := hF.dec.ring _ hL
   generalize F[q] = L at hL hr
   cases L with
   | nil => exact absurd rfl hr.1
   | cons a t =>
     have := faces_mem hm hF hL a (List.mem_cons_self ..)
     refine ⟨by simp [zN], ?_⟩
     show 0 ≤ (a : Int) ∧ (a : Int) < _
     rw [ends_length]
     omega
def genus (n : Nat) (l : List Ed) (r : List (List Int)) : Int := Cnt.genusSum (ogOf n l) (ends l) (facesL (stOf l r)) (parts n l)
theorem IsMap.genus_eq (hm : IsMap n l r) : 2 * genus n l r = 2 * (parts n l : Int) - n + l.length - (facesL (stOf l r)).length - lone r := by
 obtain ⟨F, e, hF⟩ := hm.faces
 have := hm.comp.twice hm hF
 unfold genus
 rw [e, this, List.length_map]
theorem lone_le (hm : IsMap n l r) : lone r ≤ n := by
 have := full_length r
 rw [hm.rot.len] at this
 omega
theorem IsMap.genus_pos (hm : IsMap n l r) : 0 ≤ genus n l r := by
 obtain ⟨F, e, hF⟩ := hm.faces
 have h1 := hm.genus_eq
 have h2 := faces_le hm hF
 rw [e, List.length_map] at h1
 rw [← parts_sets] at h2
 omega
theorem IsMap.genus_bound (hm : IsMap n l r) : genus n l r ≤ 9000000 := by
 have h1 := hm.genus_eq
 have h2 := parts_le hm.good
 have h3 := hm.good.2.1
 have h4 := hm.good.2.2.1
 omega
theorem genus_ok (hm : IsMap n l r) (h : Ev (fun k => rot_Check.f k (n : Int) l r) (0, 0)) : Ev (fun k => faces_Genus.f k (n : Int) l r) (genus n l r, 0) := by
 unfold faces_Genus.f
 refine Ev.bind (of_ok hm h) (Ev.congr (fun k => if_pos rfl) (Ev.bind (comps_ev hm.good) (Ev.congr (fun k => ?_) (Ev.now _))))
 unfold faces_Genus.told
 simp only
 rw [Int.toNat_natCast]
 exact if_pos ⟨trivial, by omega, hm.fitG⟩
theorem genus_bad {v e : Int} {a : Int} (he : e ≠ 0) (h : Ev (fun k => rot_Check.f k a l r) (v, e)) : Ev (fun k => faces_Genus.f k a l r) (0, e) := by
 unfold faces_Genus.f
 exact Ev.bind (of_bad he h) (Ev.congr (fun k => if_neg he) (Ev.now _))
theorem flat_ok (hm : IsMap n l r) (h : Ev (fun k => rot_Check.f k (n : Int) l r) (0, 0)) : Ev (fun k => faces_Flat.f k (n : Int) l r) (genus n l r == 0) := by
 unfold faces_Flat.f
 exact Ev.bind (genus_ok hm h) (Ev.congr (fun k => if_pos rfl) (Ev.now _))
theorem flat_bad {v e : Int} {a : Int} (he : e ≠ 0) (h : Ev (fun k => rot_Check.f k a l r) (v, e)) : Ev (fun k => faces_Flat.f k a l r) false := by
 unfold faces_Flat.f
 exact Ev.bind (genus_bad he h) (Ev.congr (fun k => if_neg he) (Ev.now _))
theorem gb_set' (S : List Bool) (i j : Nat) : gb (S.set i true) j = if i = j ∧ j < S.length then true else gb S j := gb_set S i j true
def MetB (n : Nat) (l : List Ed) (i : Nat) (M : List Bool) : Prop := M.length = n ∧ ∀ v, v < n → (gb M v = true ↔ 0 < cnt (frs l) (2 * i) v)
theorem met_put {m : Nat} {M : List Bool} {fr : List Int} {x : Nat} (hx : gi fr m = (x : Int)) (hxn : x < n) (hl : M.length = n) (h : ∀ v, v < n → (gb M v = true ↔ 0 < cnt fr m v)) : ∀ v, v < n → (gb (M.set x true) v = true ↔ 0 < cnt fr (m + 1) v) := by
 intro v hv
 rw [gb_set', cnt_succ, hx, hl]
 by_cases e : x = v
 · subst e
   rw [if_pos ⟨rfl, hv⟩, if_pos rfl]
   simp
 · rw [if_neg (fun q => e q.1), if_neg (by omega), h v hv]
   simp
theorem mark_loop (hg : PureV.Good (n : Int) l) {res : Int × Int} (d : Nat) : ∀ (i : Nat) (M : List Bool), i + d = l.length → MetB n l i M → (∀ M', MetB n l l.length M' → Ev (fun k => tangramref05_Isolated.l1 k M' 0 0 (n : Int) l) res) → Ev (fun k => tangramref05_Isolated.l0 k M (i : Int) (n : Int) l) res := by
 have hll := hg.2.2.1
 induction d with
 | zero =>
   intro i M hi hM H
   obtain rfl : i = l.length := by omega
   refine Ev.step (fun k => ?_) (H M hM)
   simp only [tangramref05_Isolated.l0]
   rw [if_neg (by omega)]
 | succ d ih =>
   intro i M hi hM H
   have hil : i < l.length := by omega
   obtain ⟨⟨a, b, c⟩, _⟩ := hg.2.2.2 i hil
   obtain ⟨u, hu⟩ : ∃ u : Nat, (PureV.rdE l (i : Nat)).f0 = (u : Int) := ⟨(PureV.rdE l (i : Nat)).f0.toNat, by omega⟩
   obtain ⟨v, hv⟩ : ∃ v : Nat, (PureV.rdE l (i : Nat)).f1 = (v : Int) := ⟨(PureV.rdE l (i : Nat)).f1.toNat, by omega⟩
   rw [hu] at a b
   rw [hv] at b c
   have hml := hM.1
   have h1 := met_put (m := 2 * i) (fr := frs l) (x := u) (by rw [frs_even hil, hu]) (by omega) hM.1 hM.2
   have h2 := met_put (m := 2 * i + 1) (fr := frs l) (x := v) (by rw [frs_odd hil, hv]) (by omega) (by rw [List.length_set]; exact hM.1) h1
   refine Ev.step (fun k => ?_) (ih (i + 1) ((M.set u true).set v true) (by omega) ⟨by rw [List.length_set, List.length_set]; exact hM.1, h2⟩ H)
   simp only [tangramref05_Isolated.l0]
   rw [if_pos (by omega), if_pos (by omega)]
   change (if 0 ≤ (PureV.rdE l (i : Nat)).f0 then (if (PureV.rdE l (i : Nat)).f0 < (M.length : Int) then (if 0 ≤ (PureV.rdE l (i : Nat)).f1 then (if (PureV.rdE l (i : Nat)).f1 < (M.length : Int) then (tangramref05_Isolated.l0 k ((M.set (PureV.rdE l (i : Nat)).f0.toNat true).set (PureV.rdE l (i : Nat)).f1.toNat true) (wrap64 ((i : Int) + 1)) (n : Int) l) else none) else none) else none) else none) = _
   rw [hu, hv, if_pos (by omega), if_pos (by omega), if_pos (by omega), if_pos (by omega), wad (by omega), Int.toNat_natCast, Int.toNat_natCast]
def loneTo (l : List Ed) (i : Nat) : Nat := (List.range i).countP fun (v : Nat) => cnt (frs l) (2 * l.length) (v : Int) == 0
theorem loneTo_succ (l : List Ed) (i : Nat) : loneTo l (i + 1) = loneTo l i + if cnt (frs l) (2 * l.length) (i : Int) = 0 then 1 else 0 := by
 unfold loneTo
 rw [List.range_succ, List.countP_append]
 by_cases h : cnt (frs l) (2 * l.length) (i : Int) = 0 <;> simp [h]
theorem loneTo_le (l : List Ed) (i : Nat) : loneTo l i ≤ i := by
 unfold loneTo
 have := List.countP_le_length (p := fun (v : Nat) => cnt (frs l) (2 * l.length) (v : Int) == 0) (l := List.range i)
 simpa using this
theorem lone_eq (hm : IsMap n l r) : lone r = loneTo l n := by
 rw [lone_count hm]
 unfold loneTo
 refine List.countP_congr fun v hv => ?_
 rw [List.mem_range] at hv
 have := row_len hm.rot hv
 rw [frs_length] at this
 rw [List.isEmpty_iff, beq_iff_eq, ← List.length_eq_zero_iff, this]
theorem met_count (hg : PureV.Good (n : Int) l) {M : List Bool} (hM : MetB n l l.length M) (d : Nat) : ∀ i : Nat, i + d = n → Ev (fun k => tangramref05_Isolated.l1 k M (loneTo l i : Int) (i : Int) (n : Int) l) (loneTo l n, 0) := by
 have hn := hg.2.1
 have hml := hM.1
 induction d with
 | zero =>
   intro i hi
   obtain rfl : i = n := by omega
   refine Ev.step (f := fun _ => some ((loneTo l i : Int), 0)) (fun k => ?_) (Ev.now _)
   simp only [tangramref05_Isolated.l1]
   rw [if_neg (by omega)]
 | succ d ih =>
   intro i hi
   have H := ih (i + 1) (by omega)
   have hle := loneTo_le l i
   have hmet := hM.2 i (by omega)
   rw [loneTo_succ] at H
   by_cases c : cnt (frs l) (2 * l.length) (i : Int) = 0
   · rw [if_pos c] at H
     refine Ev.step (fun k => ?_) H
     simp only [tangramref05_Isolated.l1]
     rw [if_pos (by omega), if_pos (by omega), if_pos (by omega)]
     change (if gb M ((i : Int).toNat) = true then _ else _) = _
     rw [Int.toNat_natCast, if_neg (fun q => by have := hmet.1 q; omega), wad (by omega), wad (by omega)]
   · rw [if_neg c] at H
     refine Ev.step (fun k => ?_) H
     simp only [tangramref05_Isolated.l1]
     rw [if_pos (by omega), if_pos (by omega), if_pos (by omega)]
     change (if gb M ((i : Int).toNat) = true then _ else _) = _
     rw [Int.toNat_natCast, if_pos (hmet.2 (by omega)), wad (by omega)]
     rfl
theorem refiso_ev (hg : PureV.Good (n : Int) l) : Ev (fun k => tangramref05_Isolated.f k (n : Int) l) ((loneTo l n : Int), 0) := by
 obtain ⟨b, h1, h2, h3⟩ := PureV.valid (n : Int) l
 rw [h3.2 hg] at h2
 have hn := hg.2.1
 unfold tangramref05_Isolated.f
 refine Ev.bind h2 (Ev.congr (fun k => ?_) (mark_loop hg l.length 0 (List.replicate n false) (by omega) ⟨by simp, fun v hv => by rw [Rot.gb_none]; simp [cnt]⟩ (fun M' hM' => met_count hg hM' n 0 (by omega))))
 rw [if_pos rfl, if_pos (by omega), if_pos (by omega)]
 rfl
theorem refgenus_ok (hm : IsMap n l r) (h : Ev (fun k => tangramref11_Check.f k (n : Int) l r) (0, 0)) : Ev (fun k => tangramref12_Genus.f k (n : Int) l r) (genus n l r, 0) := by
 have h1 := hm.genus_eq
 have h2 := parts_le hm.good
 have h3 := hm.good.2.1
 have h4 := hm.good.2.2.1
 have h5 := hm.lists.1
 have h6 := lone_eq hm
 have h7 := lone_le hm
 have h8 := hm.genus_pos
 have h9 := hm.genus_bound
 unfold tangramref12_Genus.f
 refine Ev.bind (refof_ok hm h) (Ev.congr (fun k => if_pos rfl) (Ev.bind (refcomps_ev hm.good) (Ev.bind (refiso_ev hm.good) (Ev.congr (fun k => ?_) (Ev.now _)))))
 simp only
 rw [IntWalk.wrap64_in (2 * (parts n l : Int)) (by omega), IntWalk.wrap64_in (2 * (parts n l : Int) - (loneTo l n : Int)) (by omega), IntWalk.wrap64_in (2 * (parts n l : Int) - (loneTo l n : Int) - (n : Int)) (by omega), IntWalk.wrap64_in (2 * (parts n l : Int) - (loneTo l n : Int) - (n : Int) + (l.length : Int)) (by omega),
   IntWalk.wrap64_in (2 * (parts n l : Int) - (loneTo l n : Int) - (n : Int) + (l.length : Int) - ((facesL (stOf l r)).length : Int)) (by omega)]
 have e : 2 * (parts n l : Int) - (loneTo l n : Int) - (n : Int) + (l.length : Int) - ((facesL (stOf l r)).length : Int) = 2 * genus n l r := by omega
 have e2 : Int.tdiv (2 * genus n l r) 2 = genus n l r := by rw [Cnt.tdiv2]; split <;> omega
 rw [e, e2, IntWalk.wrap64_in _ (by omega)]
theorem refgenus_bad {v e : Int} {a : Int} (he : e ≠ 0) (h : Ev (fun k => tangramref11_Check.f k a l r) (v, e)) : Ev (fun k => tangramref12_Genus.f k a l r) (0, e) := by
 unfold tangramref12_Genus.f
 exact Ev.bind (refof_bad he h) (Ev.congr (fun k => if_neg he) (Ev.now _))
theorem refflat_ok (hm : IsMap n l r) (h : Ev (fun k => tangramref11_Check.f k (n : Int) l r) (0, 0)) : Ev (fun k => tangramref12_Flat.f k (n : Int) l r) (genus n l r == 0) := by
 unfold tangramref12_Flat.f
 exact Ev.bind (refgenus_ok hm h) (Ev.congr (fun k => if_pos rfl) (Ev.now _))
theorem refflat_bad {v e : Int} {a : Int} (he : e ≠ 0) (h : Ev (fun k => tangramref11_Check.f k a l r) (v, e)) : Ev (fun k => tangramref12_Flat.f k a l r) false := by
 unfold tangramref12_Flat.f
 exact Ev.bind (refgenus_bad he h) (Ev.congr (fun k => if_neg he) (Ev.now _))
end
end Go.Proofs.Ytmikcfddipldnaa.Rot
namespace Go.Proofs.Ytmikcfddipldnaa.Open
open Go.RowKit Go.Proofs.YtmikcfddipldnaaW.PrintWords Go.Proofs.YtmikcfddipldnaaW.PrintLast Go.Proofs.YtmikcfddipldnaaW.PrintMore Go.ChangeShapes Go.WideShapes Go.Deep
set_option linter.unusedVariables false
set_option linter.unusedSimpArgs false
def I64 (n : Int) : Prop := -9223372036854775808 ≤ n ∧ n ≤ 9223372036854775807
def Opens {α : Type} (P : Program) (t : TypeId) (d : Kd α) (good : α → Prop) : Prop :=
 ∀ {H : Type} (enc : TypeId × Value → H) (w : World) (fuel : Nat) (cs : List Value) (x : DataW H × List MemPlace),
   DataW.trod enc P w 0 (fun _ => true) true fuel t cs = some x → (x.1.weights P t).all (· ≤ reachBytes) = true → ∃ v, d.K w v cs ∧ good v
section
variable {P : Program} {α β : Type}
theorem opens_int {t : TypeId} (ht : P.underlying t = some (.int .i64)) : Opens P t (Kd.int .i64) I64 := by
 intro H enc w fuel cs x h _
 obtain ⟨n, rfl, _, hw⟩ := DataW.trod_int ht h
 refine ⟨n, rfl, ?_⟩
 have hmin : IntKind.i64.min = -9223372036854775808 := rfl
 have hmax : IntKind.i64.max = 9223372036854775807 := rfl
 simp only [Lit.wf, Bool.and_eq_true, decide_eq_true_eq] at hw
 unfold I64; omega
theorem weightsAll_mem {H : Type} {e : TypeId} {l : List (DataW H)} (h : (DataW.weightsAll P e l).all (· ≤ reachBytes) = true) {d : DataW H} (hd : d ∈ l) : (d.weights P e).all (· ≤ reachBytes) = true := by
 induction l with
 | nil => cases hd
 | cons a l ih =>
   unfold DataW.weightsAll at h
   rw [List.all_append, Bool.and_eq_true] at h
   rcases List.mem_cons.1 hd with rfl | hd
   · exact h.1
   · exact ih h.2 hd
theorem opens_slice {t e : TypeId} {d : Kd α} {good : α → Prop} {B : Nat} (ht : P.underlying t = some (.slice e)) (hc : P.cellsOf e = d.sz) (hB : P.bytesOf e = B) (ho : Opens P e d good) (dflt : α) :
   Opens P t (Kd.slice e d) (fun xs => xs.length * B ≤ 140737488351232 ∧ ∀ x ∈ xs, good x) := by
 intro H enc w fuel cs x h hwt
 rcases open_slice ht h with ⟨rfl, rfl⟩ | ⟨a, len, cap, m, n, D, Pl, rfl, hb, hl, hm, hmm, rfl, hx⟩
 · exact ⟨[], ⟨none, 0, rfl, Nat.le_refl _, rfl, by simp, fun h => absurd h (by simp)⟩, by simp, by simp⟩
 · simp only [if_true] at hmm
   subst hmm
   unfold DataW.weights at hwt
   rw [ht] at hwt
   simp only [List.all_cons, List.all_append, Bool.and_eq_true, decide_eq_true_eq, List.length_map, List.length_range, hB] at hwt
   obtain ⟨hw1, hw2, _⟩ := hwt
   have each : ∀ i, i < len → ∃ v : α × List Value, v.2.length = d.sz ∧ d.K w v.1 v.2 ∧ good v.1 ∧ ∀ k u, v.2[k]? = some u → w.cell? (a.add (i * d.sz + k)) = some u := by
     intro i hi
     obtain ⟨cs', h1, h2⟩ := hx i (by omega)
     rw [hc] at h1
     obtain ⟨_, hlen, hcell⟩ := World.cells?_some h1
     obtain ⟨v, hv, hg⟩ := ho enc w n cs' _ h2 (weightsAll_mem hw2 (List.mem_map.2 ⟨i, List.mem_range.2 hi, rfl⟩))
     refine ⟨(v, cs'), hlen, hv, hg, fun k u hk => ?_⟩
     have hk2 : k < d.sz := by
       have hk3 : k < cs'.length := (List.getElem?_eq_some_iff.1 hk).1
       omega
     have := hcell k hk2
     rw [Go.Deep.add_add] at this
     rw [this]; exact hk
   haveI : Inhabited (α × List Value) := ⟨(dflt, [])⟩
   obtain ⟨q, hq⟩ := choose_lt each
   have hlen : ((List.range len).map fun i => (q i).1).length = len := by simp
   have hget : ∀ j p, ((List.range len).map fun i => (q i).1)[j]? = some p → j < len ∧ p = (q j).1 := by
     intro j p hj
     rw [List.getElem?_map] at hj
     by_cases hjl : j < len
     · rw [List.getElem?_range hjl] at hj
       exact ⟨hjl, by simpa using hj.symm⟩
     · rw [List.getElem?_eq_none (by simp; omega)] at hj; simp at hj
   refine ⟨(List.range len).map fun i => (q i).1, ⟨some a, m, by rw [hlen], by rw [hlen]; exact hl, by rw [hlen], ?_, fun _ => ⟨a, rfl, fun j p hj => ?_⟩⟩, ?_, ?_⟩
   · rw [hlen]; unfold maxLen at hm; omega
   · obtain ⟨hjl, rfl⟩ := hget j p hj
     exact ⟨(q j).2, (hq j hjl).1, (hq j hjl).2.1, (hq j hjl).2.2.2⟩
   · rw [hlen]
     have h5 : len * B ≤ (len + (m - len)) * B := Nat.mul_le_mul_right _ (by omega)
     have h6 : reachBytes = 140737488351232 := rfl
     omega
   · intro v hv
     obtain ⟨i, hi, rfl⟩ := List.mem_map.1 hv
     exact (hq i (List.mem_range.1 hi)).2.2.1
theorem opens_two {t : TypeId} {f0 f1 : Field} {a : Kd α} {b : Kd β} {ga : α → Prop} {gb : β → Prop} (ht : P.underlying t = some (.struct #[f0, f1])) (h0 : Opens P f0.type a ga) (h1 : Opens P f1.type b gb)
   (o0 : f0.offset = 0) (o1 : f1.offset = a.sz) (c0 : P.cellsOf f0.type = a.sz) (c1 : P.cellsOf f1.type = b.sz) (ct : P.cellsOf t = a.sz + b.sz) : Opens P t (Kd.pair a b) (fun x => ga x.1 ∧ gb x.2) := by
 intro H enc w fuel cs x h hwt
 obtain ⟨xs, n, _, rfl, hcl, hxl, hf⟩ := DataW.trod_struct ht h
 match xs, hxl with
 | [y0, y1], _ =>
   have g0 := hf 0 f0 rfl
   have g1 := hf 1 f1 rfl
   rw [o0, c0] at g0
   rw [o1, c1] at g1
   unfold DataW.weights at hwt
   rw [ht] at hwt
   simp only [List.map_cons, List.map_nil, DataW.weightsEach, List.all_append, Bool.and_eq_true] at hwt
   obtain ⟨hw0, hw1, _⟩ := hwt
   rw [List.drop_zero] at g0
   obtain ⟨v0, k0, q0⟩ := h0 enc w n _ y0 g0 hw0
   obtain ⟨v1, k1, q1⟩ := h1 enc w n _ y1 g1 hw1
   refine ⟨(v0, v1), ⟨_, _, ?_, k0, k1⟩, q0, q1⟩
   rw [List.take_of_length_le (l := cs.drop a.sz) (by rw [List.length_drop]; omega), List.take_append_drop]
theorem split_four {γ : Type} (cs : List γ) (a b c d : Nat) (h : cs.length = a + b + c + d) : cs = cs.take a ++ ((cs.drop a).take b ++ ((cs.drop (a + b)).take c ++ (cs.drop (a + b + c)).take d)) := by
 have h1 : (cs.drop (a + b + c)).take d = cs.drop (a + b + c) := List.take_of_length_le (by rw [List.length_drop]; omega)
 have h2 : cs.drop (a + b) = (cs.drop (a + b)).take c ++ cs.drop (a + b + c) := by rw [← List.drop_drop (l := cs) (i := c) (j := a + b), List.take_append_drop]
 have h3 : cs.drop a = (cs.drop a).take b ++ cs.drop (a + b) := by rw [← List.drop_drop (l := cs) (i := b) (j := a), List.take_append_drop]
 rw [h1, ← h2, ← h3, List.take_append_drop]
theorem opens_four {γ δ : Type} {t : TypeId} {f0 f1 f2 f3 : Field} {a : Kd α} {b : Kd β} {c : Kd γ} {d : Kd δ} {ga : α → Prop} {gb : β → Prop} {gc : γ → Prop} {gd : δ → Prop} (ht : P.underlying t = some (.struct #[f0, f1, f2, f3])) (h0 : Opens P f0.type a ga) (h1 : Opens P f1.type b gb) (h2 : Opens P f2.type c gc) (h3 : Opens P f3.type d gd)
   (o0 : f0.offset = 0) (o1 : f1.offset = a.sz) (o2 : f2.offset = a.sz + b.sz) (o3 : f3.offset = a.sz + b.sz + c.sz) (c0 : P.cellsOf f0.type = a.sz) (c1 : P.cellsOf f1.type = b.sz) (c2 : P.cellsOf f2.type = c.sz) (c3 : P.cellsOf f3.type = d.sz) (ct : P.cellsOf t = a.sz + b.sz + c.sz + d.sz) : Opens P t (Kd.pair a (Kd.pair b (Kd.pair c d))) (fun x => ga x.1 ∧ gb x.2.1 ∧ gc x.2.2.1 ∧ gd x.2.2.2) := by
 intro H enc w fuel cs x h hwt
 obtain ⟨xs, n, _, rfl, hcl, hxl, hf⟩ := DataW.trod_struct ht h
 match xs, hxl with
 | [y0, y1, y2, y3], _ =>
   have g0 := hf 0 f0 rfl
   have g1 := hf 1 f1 rfl
   have g2 := hf 2 f2 rfl
   have g3 := hf 3 f3 rfl
   rw [o0, c0] at g0
   rw [o1, c1] at g1
   rw [o2, c2] at g2
   rw [o3, c3] at g3
   unfold DataW.weights at hwt
   rw [ht] at hwt
   simp only [List.map_cons, List.map_nil, DataW.weightsEach, List.all_append, Bool.and_eq_true] at hwt
   obtain ⟨hw0, hw1, hw2, hw3, _⟩ := hwt
   rw [List.drop_zero] at g0
   obtain ⟨v0, k0, q0⟩ := h0 enc w n _ y0 g0 hw0
   obtain ⟨v1, k1, q1⟩ := h1 enc w n _ y1 g1 hw1
   obtain ⟨v2, k2, q2⟩ := h2 enc w n _ y2 g2 hw2
   obtain ⟨v3, k3, q3⟩ := h3 enc w n _ y3 g3 hw3
   refine ⟨(v0, v1, v2, v3), ⟨_, _, ?_, k0, _, _, rfl, k1, _, _, rfl, k2, k3⟩, q0, q1, q2, q3⟩
   exact split_four cs _ _ _ _ (by omega)
theorem opens_iso {t : TypeId} {d : Kd α} {good : α → Prop} {f : β → α} (g : α → β) (hg : ∀ x, f (g x) = x) (h : Opens P t d good) : Opens P t (Kd.iso d f) (fun y => good (f y)) := by
 intro H enc w fuel cs x hx hw
 obtain ⟨v, k, q⟩ := h enc w fuel cs x hx hw
 exact ⟨g v, by show d.K w (f (g v)) cs; rw [hg]; exact k, by show good (f (g v)); rw [hg]; exact q⟩
theorem open_arg {H : Type} {enc : TypeId × Value → H} {w : World} {t : TypeId} {d : Kd α} {good : α → Prop} {v : Value} {dd : DataW H} {ps : List MemPlace} (ho : Opens P t d good) (h : DataW.Trod enc P w 0 (fun _ => true) true t v dd ps)
   (hw : (dd.weights P t).all (· ≤ reachBytes) = true) : ∃ x, d.K w x v.cells.toList ∧ good x := by
 obtain ⟨fuel, hf⟩ := h
 exact ho enc w fuel _ _ hf hw
theorem weight_at {H : Type} {ts : List TypeId} {ds : List (DataW H)} (h : (DataW.weightsEach P ts ds).all (· ≤ reachBytes) = true) : ∀ {j : Nat} {t : TypeId} {d : DataW H}, ts[j]? = some t → ds[j]? = some d → (d.weights P t).all (· ≤ reachBytes) = true := by
 induction ts generalizing ds with
 | nil => intro j t d ht; simp at ht
 | cons a ts ih =>
   cases ds with
   | nil => intro j t d _ hd; simp at hd
   | cons b ds =>
     unfold DataW.weightsEach at h
     rw [List.all_append, Bool.and_eq_true] at h
     intro j t d ht hd
     cases j with
     | zero =>
       obtain rfl : a = t := by simpa using ht
       obtain rfl : b = d := by simpa using hd
       exact h.1
     | succ j => exact ih h.2 (by simpa using ht) (by simpa using hd)
theorem of_slice {w : World} {e : Nat} {d : Kd α} {xs : List α} {A : Option Addr} {n c : Nat} (h : (Kd.slice e d).K w xs [.slice A n c]) : n = xs.length ∧ xs.length ≤ c ∧ d.C w A xs.length xs := by
 obtain ⟨A', c', he, hl, hc⟩ := h
 simp only [List.cons.injEq, Value.slice.injEq, and_true] at he
 obtain ⟨rfl, rfl, rfl⟩ := he
 exact ⟨rfl, hl, hc⟩
end
end Go.Proofs.Ytmikcfddipldnaa.Open
namespace Go.Proofs.Ytmikcfddipldnaa.GAll
open Go.RowKit Go.Proofs.YtmikcfddipldnaaW.PrintWords Go.Proofs.YtmikcfddipldnaaW.PrintLast Go.Proofs.YtmikcfddipldnaaW.PrintMore
attribute [local go_sem] max2_int min2_int max_two min_two max_three min_three max_four min_four   -- for this text's walks alone
set_option linter.unusedVariables false
set_option linter.unusedSimpArgs false
def comps_Isolated.l0 : Nat → Int → Int → List Int → Int → Int → Option (Int × Int)
 | 0, _, _, _, _, _ => none
 | k + 1, x5, x6, x14, x15, x16 => if x16 < x15 then (if 0 ≤ x16 then (if x16 < (x14.length : Int) then (if (rd x14 x16) = 0 then (comps_Isolated.l0 k x5 (wrap64 (x6 + 1)) x14 x15 (wrap64 (x16 + 1))) else (comps_Isolated.l0 k x5 x6 x14 x15 (wrap64 (x16 + 1)))) else (none)) else (none)) else (some (x6, x5))
def comps_Isolated.f (k : Nat) (a0_0 : Int) (l0_1 : List (S56)) : Option (Int × Int) := (simple_Degrees.f k a0_0 l0_1).bind fun bt314 => (comps_Isolated.l0 k bt314.2 0 bt314.1 (bt314.1.length : Int) 0)
theorem comps_Isolated.mono_l : ∀ k, (∀ y0 y1 y2 y3 y4, LeO (comps_Isolated.l0 k y0 y1 y2 y3 y4) (comps_Isolated.l0 (k + 1) y0 y1 y2 y3 y4))
 | 0 => fun _ _ _ _ _ r h => by simp [comps_Isolated.l0] at h
 | k + 1 => by
   have ih0 := comps_Isolated.mono_l k
   · intro y0 y1 y2 y3 y4
     unfold comps_Isolated.l0
     repeat' first
     | (with_reducible exact ih0 _ _ _ _ _)
     | (with_reducible exact simple_Degrees.mono _ _ _)
     | (with_reducible exact LeO.refl _)
     | (with_reducible exact LeO.none _)
     | (with_reducible refine LeO.ite ?_ ?_)
     | (with_reducible refine LeO.bind ?_ (fun _ => ?_))
     | exact ih0 _ _ _ _ _
     | exact simple_Degrees.mono _ _ _
     | exact LeO.none _
     | refine LeO.ite ?_ ?_
     | refine LeO.bind ?_ (fun _ => ?_)
theorem comps_Isolated.mono : ∀ a0 a1 k, LeO (comps_Isolated.f k a0 a1) (comps_Isolated.f (k + 1) a0 a1) := by
 intro a0 a1 k
 have ih0 := comps_Isolated.mono_l k
 unfold comps_Isolated.f
 repeat' first
     | (with_reducible exact ih0 _ _ _ _ _)
     | (with_reducible exact simple_Degrees.mono _ _ _)
     | (with_reducible exact LeO.refl _)
     | (with_reducible exact LeO.none _)
     | (with_reducible refine LeO.ite ?_ ?_)
     | (with_reducible refine LeO.bind ?_ (fun _ => ?_))
     | exact ih0 _ _ _ _ _
     | exact simple_Degrees.mono _ _ _
     | exact LeO.none _
     | refine LeO.ite ?_ ?_
     | refine LeO.bind ?_ (fun _ => ?_)
set_option maxHeartbeats 8000000 in
set_option maxRecDepth 100000 in
theorem comps_Isolated.calls (k : Nat) (a0_0 : Int) (A0_1 : Option Addr) (c0_1 : Nat) (l0_1 : List (S56)) (r1 : Int) (r2 : Int) (w : World) (hr0_1 : Kd.C k56 w A0_1 l0_1.length l0_1) (hc0_1 : l0_1.length ≤ c0_1) (h : comps_Isolated.f k a0_0 l0_1 = some (r1, r2)) :
   Calls Try.prog 25 #[.agg #[.int .i64 a0_0, .slice A0_1 l0_1.length c0_1]] w fun e w' => e = .returned (.tuple #[.int .i64 r1, .int .i64 r2]) ∧ Below w.heap.size w w' := by
 have hu24 := Try.underlying24
 have HR0_1 := Aside0.mk hr0_1
 have HC0_1 := Aside0.mk hc0_1
 clear hr0_1 hc0_1
 have HB := Aside0.mk (Below.refl w.heap.size w)
 have H : ((simple_Degrees.f k a0_0 l0_1).bind fun bt314 => (comps_Isolated.l0 k bt314.2 0 bt314.1 (bt314.1.length : Int) 0)) = some (r1, r2) := h
 clear h
 replace H := Option.bind_eq_some_iff.mp H
 obtain ⟨⟨t314, t317⟩, A20, H⟩ := H
 replace H : (comps_Isolated.l0 k t317 0 t314 (t314.length : Int) 0) = some (r1, r2) := H
 have A2 := Aside0.mk A20
 clear A20
 have H' := Aside0.mk H
 clear H
 go_enter Try.func25, Try.ntmps25
 go_wp2_with (first | ((with_reducible refine gate_dst (N := 1) rfl ?_); refine box_event ?hg (N := 1) ?hd (cs := #[.int .i64 a0_0, .slice A0_1 l0_1.length c0_1]) (t := 24) ?hr ?_; (case hd => rfl); (case hg => rfl); (case hr => first | (go_simp; done) | (go_simp; rfl)); intro gb313 hg w3 hbox hb; have n0_ := Aside0.mk (below_step (by repeat (first | (with_reducible first | exact HB.out | apply below_alloc | apply pw_below_drewN | apply below_drew1) | exact HB.out)) hb); have n1_ := Aside0.mk (hbox); have n2_ := Aside0.mk ((by rw [hg]; exact (below_size (by repeat (first | (with_reducible first | exact HB.out | apply below_alloc | apply pw_below_drewN | apply below_drew1) | exact HB.out))) : w.heap.size ≤ gb313)); have n3_ := Aside0.mk ((by rw [hg]; exact (below_size (by repeat (first | (with_reducible first | exact HB.out | apply below_alloc | apply pw_below_drewN | apply below_drew1) | exact HB.out))) : w.heap.size ≤ gb313)); clear HB; have HB := n0_; have BK313 := n1_; have GW313 := n2_; have GE313 := n3_; clear n0_ n1_ n2_ n3_; clear hb hbox hg; have hcz4_0 : w3.cell? ⟨gb313, 0, none⟩ = some (.int .i64 a0_0) := (blk_cell BK313.out 0).trans rfl; have hcz4_1 : w3.cell? ⟨gb313, 1, none⟩ = some (.slice A0_1 l0_1.length c0_1) := (blk_cell BK313.out 1).trans rfl; have hfz4_0 := blk_frozen BK313.out 0; have hfz4_1 := blk_frozen BK313.out 1) | ((with_reducible refine gate_callee (f := 39) rfl ?_); refine goesL_ (some 11) rfl rfl Try.func39 (by kernel_rfl) rfl #[.agg #[.int .i64 a0_0, .slice A0_1 l0_1.length c0_1]] rfl (by (try simp only [List.map_toArray, List.map_cons, List.map_nil]); first | done | rfl | (simp only [List.length_drop, List.length_take]; rfl)) ?_; (with_reducible refine (simple_Degrees.calls k a0_0 _ _ l0_1 t314 t317 _ ?side1 ?side2 A2.out).mono ?_); (case side1 => repeat (first | exact (Kd.C_below HR0_1.out HB.out) | (with_reducible refine Kd.C_alloc ?_ _) | (with_reducible refine Kd.C_drewN ?_ _) | (with_reducible refine Kd.C_drew ?_))); (case side2 => exact HC0_1.out); rintro e w5 ⟨v315, rfl, ho0, hb⟩; refine ⟨_, rfl, ?_⟩; have n0_ := Aside0.mk (Kd.R_lower ho0 (below_size (by repeat (first | (with_reducible first | exact HB.out | apply below_alloc | apply pw_below_drewN | apply below_drew1 | refine below_set ?_ GE313.out) | exact HB.out)))); have n1_ := Aside0.mk (blk_below (g := gb313) (o := .cells #[.int .i64 a0_0, .slice A0_1 l0_1.length c0_1] 24 (0, 0)) (by (with_reducible repeat (first | refine blk_drewN ?_ _ | refine blk_drew ?_ | refine blk_alloc ?_ _)); exact BK313.out) hb); have n2_ := Aside0.mk (below_step (by repeat (first | (with_reducible first | exact HB.out | apply below_alloc | apply pw_below_drewN | apply below_drew1 | refine below_set ?_ GE313.out) | exact HB.out)) hb); clear BK313; clear HB; have HO316 := n0_; have BK313 := n1_; have HB := n2_; clear n0_ n1_ n2_; (try clear hb); (try clear hb2); (try clear hk); (try clear hi); (try clear ho0); obtain ⟨Ao6, co6, eo6⟩ := Kd.R_slice HO316.out; subst eo6))
 go_loopg [6, 16] k (fun kq v6 v16 w' => ∃ (x6_1 : Int) (x16_1 : Int), v6 = .int .i64 x6_1 ∧ v16 = .int .i64 x16_1 ∧ Aside0 (comps_Isolated.l0 kq t317 x6_1 t314 (t314.length : Int) x16_1 = some (r1, r2)) ∧ Aside0 (kq ≤ k) ∧ Aside0 (Kd.R (Kd.int .i64) 3 w' w.heap.size (fun _ => True) (.slice Ao6 t314.length co6) t314) ∧ Aside0 (w'.heap[gb313]? = some (.cells #[.int .i64 a0_0, (.slice A0_1 l0_1.length c0_1)] 24 (0, 0))) ∧ Aside0 (Below w.heap.size w w'))
 case atStart => exact ⟨(0), (0), (by first | rfl | (simp; done) | (simp [*]; done)), (by first | rfl | (simp; done) | (simp [*]; done)), H', ⟨Nat.le_refl _⟩, ⟨by (with_reducible repeat (first | apply Kd.R_alloc | apply Kd.R_drewN | apply Kd.R_drew)); exact HO316.out⟩, ⟨by (with_reducible repeat (first | refine blk_drewN ?_ _ | refine blk_drew ?_ | refine blk_alloc ?_ _)); exact BK313.out⟩, ⟨by repeat (first | (with_reducible first | exact HB.out | apply below_alloc | apply pw_below_drewN | apply below_drew1 | refine below_set ?_ GE313.out) | exact HB.out)⟩⟩
 case round =>
   clear H'
   try clear c2
   try clear p2
   try clear c3
   try clear hcz4_0
   try clear hcz4_1
   try clear hfz4_0
   try clear hfz4_1
   obtain ⟨x6_1, x16_1, rfl, rfl, HA, HK1, HO_14, BK313, HB⟩ := hrel
   cases gk with
   | zero => exact absurd HA.out (by simp [comps_Isolated.l0])
   | succ k1 =>
     have H := HA.out
     clear HA
     simp only [comps_Isolated.l0] at H
     by_cases c7 : x16_1 < (t314.length : Int)
     · rw [if_pos c7] at H
       have c7b0 : decide (x16_1 < (t314.length : Int)) = true := decide_eq_true c7
       clear c7
       by_cases c8 : 0 ≤ x16_1
       · rw [if_pos c8] at H
         have c8b0 : decide (0 ≤ x16_1) = true := decide_eq_true c8
         clear c8
         by_cases c9 : x16_1 < (t314.length : Int)
         · rw [if_pos c9] at H
           have c9b0 : decide (x16_1 < (t314.length : Int)) = true := decide_eq_true c9
           clear c9
           by_cases c10 : (rd t314 x16_1) = 0
           · rw [if_pos c10] at H
             have c10b0 : ((rd t314 x16_1) == 0) = true := beq_iff_eq.mpr c10
             have c10b1 : ((rd t314 x16_1) != 0) = false := bne_eq_false_iff_eq.mpr c10
             clear c10
             have H' := Aside0.mk H
             clear H
             have p318 : 0 ≤ (x16_1 : Int) := of_decide_eq_true (by first | (with_reducible assumption) | assumption)
             have q318 : x16_1 < (t314.length : Int) := of_decide_eq_true (by first | (with_reducible assumption) | assumption)
             obtain ⟨ad318, e318, hx318_0⟩ := Kd.at_int (Kd.R_reads' HO_14.out).2.2 x16_1 p318 q318
             cases e318
             replace p318 := eq_true p318
             replace q318 := eq_true q318
             go_wp2
             go_roundg k1
             case measure => have := HK1.out; omega
             case rel => exact ⟨(wrap64 (x6_1 + 1)), (wrap64 (x16_1 + 1)), (by first | rfl | (simp; done) | (simp [*]; done)), (by first | rfl | (simp; done) | (simp [*]; done)), H', ⟨by have := HK1.out; omega⟩, ⟨by (with_reducible repeat (first | apply Kd.R_alloc | apply Kd.R_drewN | apply Kd.R_drew)); exact HO_14.out⟩, ⟨by (with_reducible repeat (first | refine blk_drewN ?_ _ | refine blk_drew ?_ | refine blk_alloc ?_ _)); exact BK313.out⟩, ⟨by repeat (first | (with_reducible first | exact HB.out | apply below_alloc | apply pw_below_drewN | apply below_drew1 | refine below_set ?_ GE313.out) | exact HB.out)⟩⟩
           · rw [if_neg c10] at H
             have c10b0 : ((rd t314 x16_1) == 0) = false := beq_eq_false_iff_ne.mpr c10
             have c10b1 : ((rd t314 x16_1) != 0) = true := bne_iff_ne.mpr c10
             have H' := Aside0.mk H
             clear H
             have p318 : 0 ≤ (x16_1 : Int) := of_decide_eq_true (by first | (with_reducible assumption) | assumption)
             have q318 : x16_1 < (t314.length : Int) := of_decide_eq_true (by first | (with_reducible assumption) | assumption)
             obtain ⟨ad318, e318, hx318_0⟩ := Kd.at_int (Kd.R_reads' HO_14.out).2.2 x16_1 p318 q318
             cases e318
             replace p318 := eq_true p318
             replace q318 := eq_true q318
             go_wp2
             go_roundg k1
             case measure => have := HK1.out; omega
             case rel => exact ⟨(x6_1), (wrap64 (x16_1 + 1)), (by first | rfl | (simp; done) | (simp [*]; done)), (by first | rfl | (simp; done) | (simp [*]; done)), H', ⟨by have := HK1.out; omega⟩, ⟨by (with_reducible repeat (first | apply Kd.R_alloc | apply Kd.R_drewN | apply Kd.R_drew)); exact HO_14.out⟩, ⟨by (with_reducible repeat (first | refine blk_drewN ?_ _ | refine blk_drew ?_ | refine blk_alloc ?_ _)); exact BK313.out⟩, ⟨by repeat (first | (with_reducible first | exact HB.out | apply below_alloc | apply pw_below_drewN | apply below_drew1 | refine below_set ?_ GE313.out) | exact HB.out)⟩⟩
         · rw [if_neg c9] at H
           exact absurd H (by simp)
       · rw [if_neg c8] at H
         exact absurd H (by simp)
     · rw [if_neg c7] at H
       have c7b0 : decide (x16_1 < (t314.length : Int)) = false := decide_eq_false c7
       clear c7
       simp only [Option.some.injEq, Prod.mk.injEq] at H
       obtain ⟨rfl, rfl⟩ := H
       go_wp2
       go_ret2
       exact ⟨by first | rfl | (simp [errW_none, errW_some] <;> rfl) | (simp [*, errW_none, errW_some] <;> rfl), by repeat (first | (with_reducible first | exact HB.out | apply below_alloc | apply pw_below_drewN | apply below_drew1 | refine below_set ?_ GE313.out) | exact HB.out)⟩
end Go.Proofs.Ytmikcfddipldnaa.GAll
namespace Go.Proofs.Ytmikcfddipldnaa.GAll
open Go.RowKit Go.Proofs.YtmikcfddipldnaaW.PrintWords Go.Proofs.YtmikcfddipldnaaW.PrintLast Go.Proofs.YtmikcfddipldnaaW.PrintMore
attribute [local go_sem] max2_int min2_int max_two min_two max_three min_three max_four min_four   -- for this text's walks alone
set_option linter.unusedVariables false
set_option linter.unusedSimpArgs false
def tangramlaw12_triangle.f  : Option (Int × (List (S56)) × (List (List Int))) := some (3, (([(⟨0, 1⟩ : S56), (⟨0, 2⟩ : S56), (⟨1, 2⟩ : S56)] : List (S56))), (([(([0, 2] : List Int)), (([1, 4] : List Int)), (([3, 5] : List Int))] : List (List Int))))
set_option maxHeartbeats 8000000 in
set_option maxRecDepth 100000 in
theorem tangramlaw12_triangle.calls  (r1 : Int) (r2 : List (S56)) (r3 : List (List Int)) (w : World) (h : tangramlaw12_triangle.f  = some (r1, r2, r3)) :
   Calls Try.prog 30 #[] w fun e w' => ∃ v1_ v2_ : Value, e = .returned (.tuple #[.agg #[.int .i64 r1, v1_], v2_]) ∧ Kd.R k56 56 w' w.heap.size (fun k_ => (w.heap.size ≤ k_)) v1_ r2 ∧ Kd.N (Kd.slice 3 (Kd.int .i64)) 36 w' w.heap.size (fun k_ => (w.heap.size ≤ k_) ∧ some k_ ≠ (v1_ : Value).ownBlock) v2_ r3 ∧ Below w.heap.size w w' := by
 have hu24 := Try.underlying24
 have hu56 := Try.underlying56
 have HB := Aside0.mk (Below.refl w.heap.size w)
 have H : (some (3, (([(⟨0, 1⟩ : S56), (⟨0, 2⟩ : S56), (⟨1, 2⟩ : S56)] : List (S56))), (([(([0, 2] : List Int)), (([1, 4] : List Int)), (([3, 5] : List Int))] : List (List Int))))) = some (r1, r2, r3) := h
 clear h
 obtain ⟨y138, hy138⟩ : ∃ y_ : List (S56), y_ = (([(⟨0, 1⟩ : S56), (⟨0, 2⟩ : S56), (⟨1, 2⟩ : S56)] : List (S56))) := ⟨_, rfl⟩
 replace H : (some (3, y138, (([(([0, 2] : List Int)), (([1, 4] : List Int)), (([3, 5] : List Int))] : List (List Int))))) = some (r1, r2, r3) := by first | (rw [hy138]; with_reducible exact H) | (have H2_ := (Option.bind_some _ _).symm.trans H; rw [hy138]; with_reducible exact H2_) | (have H2_ := (Option.bind_some _ _).symm.trans H; with_reducible exact H2_) | with_reducible exact H | (rw [hy138]; exact H) | exact H
 have Ny138 := Aside0.mk hy138
 clear hy138
 obtain ⟨y141, hy141⟩ : ∃ y_ : List Int, y_ = (([0, 2] : List Int)) := ⟨_, rfl⟩
 replace H : (some (3, y138, (([y141, (([1, 4] : List Int)), (([3, 5] : List Int))] : List (List Int))))) = some (r1, r2, r3) := by first | (rw [hy141]; with_reducible exact H) | (have H2_ := (Option.bind_some _ _).symm.trans H; rw [hy141]; with_reducible exact H2_) | (have H2_ := (Option.bind_some _ _).symm.trans H; with_reducible exact H2_) | with_reducible exact H | (rw [hy141]; exact H) | exact H
 have Ny141 := Aside0.mk hy141
 clear hy141
 obtain ⟨y144, hy144⟩ : ∃ y_ : List Int, y_ = (([1, 4] : List Int)) := ⟨_, rfl⟩
 replace H : (some (3, y138, (([y141, y144, (([3, 5] : List Int))] : List (List Int))))) = some (r1, r2, r3) := by first | (rw [hy144]; with_reducible exact H) | (have H2_ := (Option.bind_some _ _).symm.trans H; rw [hy144]; with_reducible exact H2_) | (have H2_ := (Option.bind_some _ _).symm.trans H; with_reducible exact H2_) | with_reducible exact H | (rw [hy144]; exact H) | exact H
 have Ny144 := Aside0.mk hy144
 clear hy144
 obtain ⟨y147, hy147⟩ : ∃ y_ : List Int, y_ = (([3, 5] : List Int)) := ⟨_, rfl⟩
 replace H : (some (3, y138, (([y141, y144, y147] : List (List Int))))) = some (r1, r2, r3) := by first | (rw [hy147]; with_reducible exact H) | (have H2_ := (Option.bind_some _ _).symm.trans H; rw [hy147]; with_reducible exact H2_) | (have H2_ := (Option.bind_some _ _).symm.trans H; with_reducible exact H2_) | with_reducible exact H | (rw [hy147]; exact H) | exact H
 have Ny147 := Aside0.mk hy147
 clear hy147
 obtain ⟨y150, hy150⟩ : ∃ y_ : List (List Int), y_ = (([y141, y144, y147] : List (List Int))) := ⟨_, rfl⟩
 replace H : (some (3, y138, y150)) = some (r1, r2, r3) := by first | (rw [hy150]; with_reducible exact H) | (have H2_ := (Option.bind_some _ _).symm.trans H; rw [hy150]; with_reducible exact H2_) | (have H2_ := (Option.bind_some _ _).symm.trans H; with_reducible exact H2_) | with_reducible exact H | (rw [hy150]; exact H) | exact H
 have Ny150 := Aside0.mk hy150
 clear hy150
 simp only [Option.some.injEq, Prod.mk.injEq] at H
 obtain ⟨rfl, rfl, rfl⟩ := H
 go_enter Try.func30, Try.ntmps30
 go_wp2_with (first | ((with_reducible refine gate_dst (N := 0) rfl ?_); refine box_event ?hg (N := 0) ?hd (cs := #[.int .i64 0, .slice none 0 0]) (t := 24) ?hr ?_; (case hd => rfl); (case hg => rfl); (case hr => first | (go_simp; done) | (go_simp; rfl)); intro gb137 hg w1 hbox hb; have n0_ := Aside0.mk (below_step (by repeat (first | (with_reducible first | exact HB.out | apply below_alloc | apply pw_below_drewN | apply below_drew1) | exact HB.out)) hb); have n1_ := Aside0.mk (hbox); have n2_ := Aside0.mk ((by rw [hg]; exact (below_size (by repeat (first | (with_reducible first | exact HB.out | apply below_alloc | apply pw_below_drewN | apply below_drew1) | exact HB.out))) : w.heap.size ≤ gb137)); have n3_ := Aside0.mk ((by rw [hg]; exact (below_size (by repeat (first | (with_reducible first | exact HB.out | apply below_alloc | apply pw_below_drewN | apply below_drew1) | exact HB.out))) : w.heap.size ≤ gb137)); clear HB; have HB := n0_; have BK137 := n1_; have GW137 := n2_; have GE137 := n3_; clear n0_ n1_ n2_ n3_; clear hb hbox hg) | ((with_reducible refine gate_dst (N := 5) rfl ?_); refine Kd.R_lit k56 _ 56 ?hg (N := 5) ?hd (xs := ([(⟨0, 1⟩ : S56), (⟨0, 2⟩ : S56), (⟨1, 2⟩ : S56)] : List (S56))) (inner := [.int .i64 0, .int .i64 1, .int .i64 0, .int .i64 2, .int .i64 1, .int .i64 2]) (ok := fun _ => True) (okp := fun _ => True) ?hr ?hp (fun _ hk => hk) trivial (Below.refl _ _) (Nat.le_refl _) (by simp) ?_; (case hd => rfl); (case hg => rfl); (case hr => first | (go_simp; done) | (go_simp; rfl)); (case hp => exact (Reps.c2 (show Kd.M k56 _ _ _ (⟨0, 1⟩ : S56) [.int .i64 0, .int .i64 1] from (k56_mkM _ _ _ (⟨0, 1⟩ : S56) )) (Reps.c2 (show Kd.M k56 _ _ _ (⟨0, 2⟩ : S56) [.int .i64 0, .int .i64 2] from (k56_mkM _ _ _ (⟨0, 2⟩ : S56) )) (Reps.c2 (show Kd.M k56 _ _ _ (⟨1, 2⟩ : S56) [.int .i64 1, .int .i64 2] from (k56_mkM _ _ _ (⟨1, 2⟩ : S56) )) (Reps.none _ _))))); intro v139 w2 ho3 hb hg_ hnew_; clear hg_ hnew_; (first | rw [← Ny138.out] at ho3 | (simp only [Int.reduceToNat] at ho3; rw [← Ny138.out] at ho3)); have n0_ := Aside0.mk (Kd.R_lower (Kd.R_newM (M := fun k_ => (w.heap.size ≤ k_)) ho3 (below_size (by repeat (first | (with_reducible first | exact HB.out | apply below_alloc | apply pw_below_drewN | apply below_drew1 | refine below_set ?_ GE137.out) | exact HB.out))) (fun k_ h_ => h_)) (below_size (by repeat (first | (with_reducible first | exact HB.out | apply below_alloc | apply pw_below_drewN | apply below_drew1 | refine below_set ?_ GE137.out) | exact HB.out)))); have n1_ := Aside0.mk (blk_below (g := gb137) (o := .cells #[.int .i64 0, .slice none 0 0] 24 (0, 0)) (by (with_reducible repeat (first | refine blk_drewN ?_ _ | refine blk_drew ?_ | refine blk_alloc ?_ _)); exact BK137.out) hb); have n2_ := Aside0.mk (below_step (by repeat (first | (with_reducible first | exact HB.out | apply below_alloc | apply pw_below_drewN | apply below_drew1 | refine below_set ?_ GE137.out) | exact HB.out)) hb); clear BK137; clear HB; have HO140 := n0_; have BK137 := n1_; have HB := n2_; clear n0_ n1_ n2_; clear hb ho3; obtain ⟨Ao4, co4, eo4⟩ := Kd.R_slice HO140.out; subst eo4) | ((with_reducible refine gate_dst (N := 7) rfl ?_); refine Kd.R_lit (Kd.int .i64) _ 3 ?hg (N := 7) ?hd (xs := ([0, 2] : List Int)) (inner := [.int .i64 0, .int .i64 2]) (ok := fun _ => True) (okp := fun _ => True) ?hr ?hp (fun _ hk => hk) trivial (Below.refl _ _) (Nat.le_refl _) (by simp) ?_; (case hd => rfl); (case hg => rfl); (case hr => first | (go_simp; done) | (go_simp; rfl)); (case hp => exact (Reps.one (show Kd.M (Kd.int .i64) _ _ _ 0 [.int .i64 0] from rfl) (Reps.one (show Kd.M (Kd.int .i64) _ _ _ 2 [.int .i64 2] from rfl) (Reps.none _ _)))); intro v142 w5 ho6 hb hg_ hnew_; clear hg_ hnew_; (first | rw [← Ny141.out] at ho6 | (simp only [Int.reduceToNat] at ho6; rw [← Ny141.out] at ho6)); have n0_ := Aside0.mk (Kd.R_below (by (with_reducible repeat (first | apply Kd.R_alloc | apply Kd.R_drewN | apply Kd.R_drew)); exact HO140.out) hb); have n1_ := Aside0.mk (Kd.R_lower (Kd.R_newM (M := fun k_ => (w.heap.size ≤ k_)) ho6 (below_size (by repeat (first | (with_reducible first | exact HB.out | apply below_alloc | apply pw_below_drewN | apply below_drew1 | refine below_set ?_ GE137.out) | exact HB.out))) (fun k_ h_ => h_)) (below_size (by repeat (first | (with_reducible first | exact HB.out | apply below_alloc | apply pw_below_drewN | apply below_drew1 | refine below_set ?_ GE137.out) | exact HB.out)))); have n2_ := Aside0.mk (blk_below (g := gb137) (o := .cells #[.int .i64 0, .slice none 0 0] 24 (0, 0)) (by (with_reducible repeat (first | refine blk_drewN ?_ _ | refine blk_drew ?_ | refine blk_alloc ?_ _)); exact BK137.out) hb); have n3_ := Aside0.mk (below_step (by repeat (first | (with_reducible first | exact HB.out | apply below_alloc | apply pw_below_drewN | apply below_drew1 | refine below_set ?_ GE137.out) | exact HB.out)) hb); clear HO140; clear BK137; clear HB; have HO140 := n0_; have HO143 := n1_; have BK137 := n2_; have HB := n3_; clear n0_ n1_ n2_ n3_; clear hb ho6) | ((with_reducible refine gate_dst (N := 8) rfl ?_); refine Kd.R_lit (Kd.int .i64) _ 3 ?hg (N := 8) ?hd (xs := ([1, 4] : List Int)) (inner := [.int .i64 1, .int .i64 4]) (ok := fun _ => True) (okp := fun _ => True) ?hr ?hp (fun _ hk => hk) trivial (Below.refl _ _) (Nat.le_refl _) (by simp) ?_; (case hd => rfl); (case hg => rfl); (case hr => first | (go_simp; done) | (go_simp; rfl)); (case hp => exact (Reps.one (show Kd.M (Kd.int .i64) _ _ _ 1 [.int .i64 1] from rfl) (Reps.one (show Kd.M (Kd.int .i64) _ _ _ 4 [.int .i64 4] from rfl) (Reps.none _ _)))); intro v145 w7 ho8 hb hg_ hnew_; clear hg_ hnew_; (first | rw [← Ny144.out] at ho8 | (simp only [Int.reduceToNat] at ho8; rw [← Ny144.out] at ho8)); have n0_ := Aside0.mk (Kd.R_below (by (with_reducible repeat (first | apply Kd.R_alloc | apply Kd.R_drewN | apply Kd.R_drew)); exact HO140.out) hb); have n1_ := Aside0.mk (Kd.R_elder' (by (with_reducible repeat (first | apply Kd.R_alloc | apply Kd.R_drewN | apply Kd.R_drew)); exact HO143.out) (Kd.R_base ho8) hb); have n2_ := Aside0.mk (Kd.R_lower (Kd.R_new' (Kd.R_newM (M := fun k_ => (w.heap.size ≤ k_)) ho8 (below_size (by repeat (first | (with_reducible first | exact HB.out | apply below_alloc | apply pw_below_drewN | apply below_drew1 | refine below_set ?_ GE137.out) | exact HB.out))) (fun k_ h_ => h_)) (Kd.R_lt (by (with_reducible repeat (first | apply Kd.R_alloc | apply Kd.R_drewN | apply Kd.R_drew)); exact HO143.out))) (below_size (by repeat (first | (with_reducible first | exact HB.out | apply below_alloc | apply pw_below_drewN | apply below_drew1 | refine below_set ?_ GE137.out) | exact HB.out)))); have n3_ := Aside0.mk (blk_below (g := gb137) (o := .cells #[.int .i64 0, .slice none 0 0] 24 (0, 0)) (by (with_reducible repeat (first | refine blk_drewN ?_ _ | refine blk_drew ?_ | refine blk_alloc ?_ _)); exact BK137.out) hb); have n4_ := Aside0.mk (below_step (by repeat (first | (with_reducible first | exact HB.out | apply below_alloc | apply pw_below_drewN | apply below_drew1 | refine below_set ?_ GE137.out) | exact HB.out)) hb); clear HO140; clear HO143; clear BK137; clear HB; have HO140 := n0_; have HO143 := n1_; have HO146 := n2_; have BK137 := n3_; have HB := n4_; clear n0_ n1_ n2_ n3_ n4_; clear hb ho8) | ((with_reducible refine gate_dst (N := 9) rfl ?_); refine Kd.R_lit (Kd.int .i64) _ 3 ?hg (N := 9) ?hd (xs := ([3, 5] : List Int)) (inner := [.int .i64 3, .int .i64 5]) (ok := fun _ => True) (okp := fun _ => True) ?hr ?hp (fun _ hk => hk) trivial (Below.refl _ _) (Nat.le_refl _) (by simp) ?_; (case hd => rfl); (case hg => rfl); (case hr => first | (go_simp; done) | (go_simp; rfl)); (case hp => exact (Reps.one (show Kd.M (Kd.int .i64) _ _ _ 3 [.int .i64 3] from rfl) (Reps.one (show Kd.M (Kd.int .i64) _ _ _ 5 [.int .i64 5] from rfl) (Reps.none _ _)))); intro v148 w9 ho10 hb hg_ hnew_; clear hg_ hnew_; (first | rw [← Ny147.out] at ho10 | (simp only [Int.reduceToNat] at ho10; rw [← Ny147.out] at ho10)); have n0_ := Aside0.mk (Kd.R_below (by (with_reducible repeat (first | apply Kd.R_alloc | apply Kd.R_drewN | apply Kd.R_drew)); exact HO140.out) hb); have n1_ := Aside0.mk (Kd.R_elder' (by (with_reducible repeat (first | apply Kd.R_alloc | apply Kd.R_drewN | apply Kd.R_drew)); exact HO143.out) (Kd.R_base ho10) hb); have n2_ := Aside0.mk (Kd.R_elder' (by (with_reducible repeat (first | apply Kd.R_alloc | apply Kd.R_drewN | apply Kd.R_drew)); exact HO146.out) (Kd.R_base ho10) hb); have n3_ := Aside0.mk (Kd.R_lower (Kd.R_new' (Kd.R_new' (Kd.R_newM (M := fun k_ => (w.heap.size ≤ k_)) ho10 (below_size (by repeat (first | (with_reducible first | exact HB.out | apply below_alloc | apply pw_below_drewN | apply below_drew1 | refine below_set ?_ GE137.out) | exact HB.out))) (fun k_ h_ => h_)) (Kd.R_lt (by (with_reducible repeat (first | apply Kd.R_alloc | apply Kd.R_drewN | apply Kd.R_drew)); exact HO143.out))) (Kd.R_lt (by (with_reducible repeat (first | apply Kd.R_alloc | apply Kd.R_drewN | apply Kd.R_drew)); exact HO146.out))) (below_size (by repeat (first | (with_reducible first | exact HB.out | apply below_alloc | apply pw_below_drewN | apply below_drew1 | refine below_set ?_ GE137.out) | exact HB.out)))); have n4_ := Aside0.mk (blk_below (g := gb137) (o := .cells #[.int .i64 0, .slice none 0 0] 24 (0, 0)) (by (with_reducible repeat (first | refine blk_drewN ?_ _ | refine blk_drew ?_ | refine blk_alloc ?_ _)); exact BK137.out) hb); have n5_ := Aside0.mk (below_step (by repeat (first | (with_reducible first | exact HB.out | apply below_alloc | apply pw_below_drewN | apply below_drew1 | refine below_set ?_ GE137.out) | exact HB.out)) hb); clear HO140; clear HO143; clear HO146; clear BK137; clear HB; have HO140 := n0_; have HO143 := n1_; have HO146 := n2_; have HO149 := n3_; have BK137 := n4_; have HB := n5_; clear n0_ n1_ n2_ n3_ n4_ n5_; clear hb ho10; obtain ⟨Ao11, co11, eo11⟩ := Kd.R_slice HO143.out; subst eo11; obtain ⟨Ao12, co12, eo12⟩ := Kd.R_slice HO146.out; subst eo12; obtain ⟨Ao13, co13, eo13⟩ := Kd.R_slice HO149.out; subst eo13) | ((with_reducible refine gate_dst (N := 10) rfl ?_); refine Kd.N_lit (Kd.slice 3 (Kd.int .i64)) _ 36 ?hg (N' := 10) ?hd (xs := ([y141, y144, y147] : List (List Int))) (inner := [.slice Ao11 y141.length co11, .slice Ao12 y144.length co12, .slice Ao13 y147.length co13]) (ok := (fun k_ => (w.heap.size ≤ k_) ∧ some k_ ≠ (.slice Ao4 y138.length co4 : Value).ownBlock ∧ k_ ≠ gb137)) (okp := (fun k_ => (w.heap.size ≤ k_) ∧ some k_ ≠ (.slice Ao4 y138.length co4 : Value).ownBlock ∧ k_ ≠ gb137)) ?hr ?hp (fun _ hk => hk) ((show ∀ k_, w9.heap.size ≤ k_ → (fun k_ => (w.heap.size ≤ k_) ∧ some k_ ≠ (.slice Ao4 y138.length co4 : Value).ownBlock ∧ k_ ≠ gb137) k_ from fun k_ hk => ⟨(Nat.le_trans (below_size (by repeat (first | (with_reducible first | exact HB.out | apply below_alloc | apply pw_below_drewN | apply below_drew1 | refine below_set ?_ GE137.out) | exact HB.out))) hk), Kd.fresh' (Kd.R_lt (by (with_reducible repeat (first | apply Kd.R_alloc | apply Kd.R_drewN | apply Kd.R_drew)); exact HO140.out)) k_ hk, Kd.freshB (g := gb137) (o := .cells #[.int .i64 0, .slice none 0 0] 24 (0, 0)) (by (with_reducible repeat (first | refine blk_drewN ?_ _ | refine blk_drew ?_ | refine blk_alloc ?_ _)); exact BK137.out) k_ hk⟩) _ (Nat.le_refl _)) (Below.refl _ _) (Nat.le_refl _) (by simp) ?_; (case hd => rfl); (case hg => rfl); (case hr => first | (go_simp; done) | (go_simp; rfl)); (case hp => exact (Reps.one (show Kd.FK (Kd.slice 3 (Kd.int .i64)) _ _ y141 [.slice Ao11 y141.length co11] from (Kd.FK_slice_mk (Kd.R_reads' (Kd.R_mono (ok' := (fun k_ => (w.heap.size ≤ k_) ∧ some k_ ≠ (.slice Ao4 y138.length co4 : Value).ownBlock ∧ k_ ≠ gb137)) (Kd.R_types (Kd.R_apart' (HO143.out) (Kd.R_typed HO140.out) (by decide)) BK137.out (by decide)) (fun k_ hk => ⟨hk.1.1.1.1.1, ⟨hk.1.2, hk.2⟩⟩))).2.1 (Kd.R_F (Kd.R_mono (ok' := (fun k_ => (w.heap.size ≤ k_) ∧ some k_ ≠ (.slice Ao4 y138.length co4 : Value).ownBlock ∧ k_ ≠ gb137)) (Kd.R_types (Kd.R_apart' (HO143.out) (Kd.R_typed HO140.out) (by decide)) BK137.out (by decide)) (fun k_ hk => ⟨hk.1.1.1.1.1, ⟨hk.1.2, hk.2⟩⟩))))) (Reps.one (show Kd.FK (Kd.slice 3 (Kd.int .i64)) _ _ y144 [.slice Ao12 y144.length co12] from (Kd.FK_slice_mk (Kd.R_reads' (Kd.R_mono (ok' := (fun k_ => (w.heap.size ≤ k_) ∧ some k_ ≠ (.slice Ao4 y138.length co4 : Value).ownBlock ∧ k_ ≠ gb137)) (Kd.R_types (Kd.R_apart' (HO146.out) (Kd.R_typed HO140.out) (by decide)) BK137.out (by decide)) (fun k_ hk => ⟨hk.1.1.1.1.1, ⟨hk.1.2, hk.2⟩⟩))).2.1 (Kd.R_F (Kd.R_mono (ok' := (fun k_ => (w.heap.size ≤ k_) ∧ some k_ ≠ (.slice Ao4 y138.length co4 : Value).ownBlock ∧ k_ ≠ gb137)) (Kd.R_types (Kd.R_apart' (HO146.out) (Kd.R_typed HO140.out) (by decide)) BK137.out (by decide)) (fun k_ hk => ⟨hk.1.1.1.1.1, ⟨hk.1.2, hk.2⟩⟩))))) (Reps.one (show Kd.FK (Kd.slice 3 (Kd.int .i64)) _ _ y147 [.slice Ao13 y147.length co13] from (Kd.FK_slice_mk (Kd.R_reads' (Kd.R_mono (ok' := (fun k_ => (w.heap.size ≤ k_) ∧ some k_ ≠ (.slice Ao4 y138.length co4 : Value).ownBlock ∧ k_ ≠ gb137)) (Kd.R_types (Kd.R_apart' (HO149.out) (Kd.R_typed HO140.out) (by decide)) BK137.out (by decide)) (fun k_ hk => ⟨hk.1.1.1.1.1, ⟨hk.1.2, hk.2⟩⟩))).2.1 (Kd.R_F (Kd.R_mono (ok' := (fun k_ => (w.heap.size ≤ k_) ∧ some k_ ≠ (.slice Ao4 y138.length co4 : Value).ownBlock ∧ k_ ≠ gb137)) (Kd.R_types (Kd.R_apart' (HO149.out) (Kd.R_typed HO140.out) (by decide)) BK137.out (by decide)) (fun k_ hk => ⟨hk.1.1.1.1.1, ⟨hk.1.2, hk.2⟩⟩))))) (Reps.none _ _))))); intro v151 w14 ho15 hb hg_ hnew_; clear hg_ hnew_; (first | rw [← Ny150.out] at ho15 | (simp only [Int.reduceToNat] at ho15; rw [← Ny150.out] at ho15)); have n0_ := Aside0.mk (Kd.R_below (by (with_reducible repeat (first | apply Kd.R_alloc | apply Kd.R_drewN | apply Kd.R_drew)); exact HO140.out) hb); have n1_ := Aside0.mk (Kd.N_lower ho15 (below_size (by repeat (first | (with_reducible first | exact HB.out | apply below_alloc | apply pw_below_drewN | apply below_drew1 | refine below_set ?_ GE137.out) | exact HB.out)))); have n2_ := Aside0.mk (blk_below (g := gb137) (o := .cells #[.int .i64 0, .slice none 0 0] 24 (0, 0)) (by (with_reducible repeat (first | refine blk_drewN ?_ _ | refine blk_drew ?_ | refine blk_alloc ?_ _)); exact BK137.out) hb); have n3_ := Aside0.mk (below_step (by repeat (first | (with_reducible first | exact HB.out | apply below_alloc | apply pw_below_drewN | apply below_drew1 | refine below_set ?_ GE137.out) | exact HB.out)) hb); clear HO140; clear BK137; clear HB; clear HO143; clear HO146; clear HO149; have HO140 := n0_; have HO152 := n1_; have BK137 := n2_; have HB := n3_; clear n0_ n1_ n2_ n3_; clear hb ho15; have hcz16_0 : w14.cell? ⟨gb137, 0, none⟩ = some (.int .i64 0) := (blk_cell BK137.out 0).trans rfl; have hcz16_1 : w14.cell? ⟨gb137, 1, none⟩ = some (.slice none 0 0) := (blk_cell BK137.out 1).trans rfl; have hfz16_0 := blk_frozen BK137.out 0; have hfz16_1 := blk_frozen BK137.out 1))
 refine bodyPost_ret (results_ct rfl _ _ gb137 24 #[.int .i64 3, .slice Ao4 y138.length co4] (0, 0) _ rfl (by (with_reducible repeat (first | refine blk_drewN ?_ _ | refine blk_drew ?_ | refine blk_alloc ?_ _)); refine blk_put (cs := #[.int .i64 3, .slice none 0 0]) ?_ 1 _ rfl; (with_reducible repeat (first | refine blk_drewN ?_ _ | refine blk_drew ?_ | refine blk_alloc ?_ _)); refine blk_put (cs := #[.int .i64 0, .slice none 0 0]) ?_ 0 _ rfl; (with_reducible repeat (first | refine blk_drewN ?_ _ | refine blk_drew ?_ | refine blk_alloc ?_ _)); exact BK137.out) Try.underlying24 rfl (by kernel_rfl)) rfl ?_
 exact ⟨_, _, by first | rfl | (simp [errW_none, errW_some] <;> rfl) | (simp [*, errW_none, errW_some] <;> rfl), by (with_reducible repeat (first | apply Kd.R_alloc | apply Kd.R_drewN | apply Kd.R_drew)); exact Kd.R_mono (Kd.R_far (p := ⟨gb137, 1, none⟩) (Kd.R_far (p := ⟨gb137, 0, none⟩) (Kd.R_types HO140.out BK137.out (by decide)) (fun _ hk => hk.2) (.int .i64 3)) (fun _ hk => hk.2) (.slice Ao4 y138.length co4)) (fun _ hk => hk.1.1), by (with_reducible repeat (first | apply Kd.N_alloc | apply Kd.N_drewN | apply Kd.N_drew)); exact Kd.N_mono (Kd.N_far (p := ⟨gb137, 1, none⟩) (Kd.N_far (p := ⟨gb137, 0, none⟩) (Kd.N_mono HO152.out (fun k_ hk => (⟨hk, hk.2.2⟩ : _ ∧ k_ ≠ gb137))) (fun _ hk => hk.2) (.int .i64 3)) (fun _ hk => hk.2) (.slice Ao4 y138.length co4)) (fun _ hk => ⟨hk.1.1, hk.1.2.1⟩), by repeat (first | (with_reducible first | exact HB.out | apply below_alloc | apply pw_below_drewN | apply below_drew1 | refine below_set ?_ GE137.out) | exact HB.out)⟩
end Go.Proofs.Ytmikcfddipldnaa.GAll
namespace Go.Proofs.Ytmikcfddipldnaa.GAll
open Go.RowKit Go.Proofs.YtmikcfddipldnaaW.PrintWords Go.Proofs.YtmikcfddipldnaaW.PrintLast Go.Proofs.YtmikcfddipldnaaW.PrintMore
attribute [local go_sem] max2_int min2_int max_two min_two max_three min_three max_four min_four   -- for this text's walks alone
set_option linter.unusedVariables false
set_option linter.unusedSimpArgs false
def tangramlaw12_wakes.r : List (List Int) := [[0, 2], [1, 4], [3, 5]]
def tangramlaw12_wakes.es : List S56 := [⟨0, 1⟩, ⟨0, 2⟩, ⟨1, 2⟩]
set_option maxRecDepth 100000 in
theorem tangramlaw12_wakes.c0 : tangramlaw12_triangle.f = some (3, tangramlaw12_wakes.es, tangramlaw12_wakes.r) := by kernel_rfl
set_option maxRecDepth 100000 in
theorem tangramlaw12_wakes.c1 : faces_Of.f 40 3 tangramlaw12_wakes.es tangramlaw12_wakes.r = some ([[0, 4, 3], [1, 2, 5]], 0) := by kernel_rfl
set_option maxRecDepth 100000 in
theorem tangramlaw12_wakes.c2 : faces_Left.f 40 3 tangramlaw12_wakes.es tangramlaw12_wakes.r = some ([0, 1, 1, 0, 0, 1], 0) := by kernel_rfl
set_option maxRecDepth 100000 in
theorem tangramlaw12_wakes.c3 : faces_Genus.f 40 3 tangramlaw12_wakes.es tangramlaw12_wakes.r = some (0, 0) := by kernel_rfl
set_option maxRecDepth 100000 in
theorem tangramlaw12_wakes.c4 : faces_Of.f 40 3 tangramlaw12_wakes.es (tangramlaw12_wakes.r.take 2) = some ([], 110) := by kernel_rfl
set_option maxRecDepth 100000 in
theorem tangramlaw12_wakes.c5 : faces_Flat.f 40 3 tangramlaw12_wakes.es tangramlaw12_wakes.r = some true := by kernel_rfl
theorem tangramlaw12_wakes.s1 : tangramref03_SameLists.f 40 [[0, 4, 3], [1, 2, 5]] [[0, 4, 3], [1, 2, 5]] = some true := by kernel_rfl
theorem tangramlaw12_wakes.s2 : tangramref03_SameInts.f 40 [0, 1, 1, 0, 0, 1] [0, 1, 1, 0, 0, 1] = some true := by kernel_rfl
def tangramlaw12_wakes.f : Option Bool := some true
set_option maxHeartbeats 4000000 in
set_option maxRecDepth 100000 in
theorem tangramlaw12_wakes.calls (r : Bool) (w : World) (h : tangramlaw12_wakes.f = some r) :
   Calls Try.prog 9 #[] w fun e w' => e = .returned (.bool r) ∧ Below w.heap.size w w' := by
 obtain rfl : true = r := by simpa [tangramlaw12_wakes.f] using h
 clear h
 go_enter Try.func9, Try.ntmps9
 go_wp2_with fail
 refine (tangramlaw12_triangle.calls _ _ _ w tangramlaw12_wakes.c0).mono ?_
 rintro e w1 ⟨v1, v2, rfl, hR, hN, hb⟩
 have HB1 := Aside0.mk hb
 obtain ⟨A, c, rfl, hc, hC⟩ := Kd.R_reads hR
 obtain ⟨A1, c1, rfl, hc1, hC1⟩ := Kd.N_reads hN
 have HC1 := Aside0.mk hC
 have HL := Aside0.mk hc
 have HD1 := Aside0.mk hC1
 have HL1 := Aside0.mk hc1
 clear hb hR hN hC hC1 hc hc1
 have HX1 : Aside0 ((w1.alloc (.cells #[.int .i64 3, .slice A tangramlaw12_wakes.es.length c] 24 (0, 0))).heap[w1.heap.size]? = some (.cells #[.int .i64 3, .slice A tangramlaw12_wakes.es.length c] 24 (0, 0))) := ⟨Mem.heap_last w1 _⟩
 have hb : Below w1.heap.size w1 (w1.alloc (.cells #[.int .i64 3, .slice A tangramlaw12_wakes.es.length c] 24 (0, 0))) := (Below.refl _ _).alloc (Nat.le_refl _) _
 have HB2 := Aside0.mk (HB1.out.trans (hb.mono HB1.out.size))
 have HC2 := Aside0.mk (Kd.C_below HC1.out hb)
 have HD2 := Aside0.mk (Kd.C_below HD1.out hb)
 have x0 : (w1.alloc (.cells #[.int .i64 3, .slice A tangramlaw12_wakes.es.length c] 24 (0, 0))).cell? ⟨w1.heap.size, 0, none⟩ = some (.int .i64 3) := Mem.heap_cell HX1.out rfl
 have x1 : (w1.alloc (.cells #[.int .i64 3, .slice A tangramlaw12_wakes.es.length c] 24 (0, 0))).cell? ⟨w1.heap.size, 1, none⟩ = some (.slice A tangramlaw12_wakes.es.length c) := Mem.heap_cell HX1.out rfl
 clear hb HB1 HC1 HD1
 go_wp2_with fail
 generalize w1.alloc (.cells #[.int .i64 3, .slice A tangramlaw12_wakes.es.length c] 24 (0, 0)) = w2 at HX1 HB2 HC2 HD2 x0 x1 ⊢
 obtain ⟨b, hbb⟩ : ∃ b, b = w1.heap.size := ⟨_, rfl⟩
 rw [← hbb] at HX1 x0 x1 ⊢
 clear hbb
 refine (faces_Of.calls 40 3 A c tangramlaw12_wakes.es A1 c1 tangramlaw12_wakes.r _ _ w2 HC2.out HL.out HD2.out HL1.out tangramlaw12_wakes.c1).mono ?_
 rintro e w3 ⟨v, rfl, hR, hb⟩
 have HB3 := Aside0.mk (HB2.out.trans (hb.mono HB2.out.size))
 have HX3 := Aside0.mk ((hb.block _ (Mem.lt_of HX1.out)).trans HX1.out)
 have HC3 := Aside0.mk (Kd.C_below HC2.out hb)
 have HD3 := Aside0.mk (Kd.C_below HD2.out hb)
 clear HB2 HX1 HC2 HD2
 first | clear x0 x1 | skip
 have x0 : w3.cell? ⟨b, 0, none⟩ = some (.int .i64 3) := Mem.heap_cell HX3.out rfl
 have x1 : w3.cell? ⟨b, 1, none⟩ = some (.slice A tangramlaw12_wakes.es.length c) := Mem.heap_cell HX3.out rfl
 clear hb
 obtain ⟨A3, c3, e3, hc, hC⟩ := Kd.S_reads hR
 have HR3 := Aside0.mk hC
 have HL3 := Aside0.mk hc
 clear hR hC hc
 subst e3
 go_wp2_with fail
 refine (faces_Left.calls 40 3 A c tangramlaw12_wakes.es A1 c1 tangramlaw12_wakes.r _ _ w3 HC3.out HL.out HD3.out HL1.out tangramlaw12_wakes.c2).mono ?_
 rintro e w4 ⟨v, rfl, hR, hb⟩
 have HB4 := Aside0.mk (HB3.out.trans (hb.mono HB3.out.size))
 have HX4 := Aside0.mk ((hb.block _ (Mem.lt_of HX3.out)).trans HX3.out)
 have HC4 := Aside0.mk (Kd.C_below HC3.out hb)
 have HD4 := Aside0.mk (Kd.C_below HD3.out hb)
 clear HB3 HX3 HC3 HD3
 first | clear x0 x1 | skip
 have x0 : w4.cell? ⟨b, 0, none⟩ = some (.int .i64 3) := Mem.heap_cell HX4.out rfl
 have x1 : w4.cell? ⟨b, 1, none⟩ = some (.slice A tangramlaw12_wakes.es.length c) := Mem.heap_cell HX4.out rfl
 have HR3a := Aside0.mk (Kd.C_below HR3.out hb)
 clear HR3
 clear hb
 obtain ⟨A4, c4, e4, hc, hC⟩ := Kd.R_reads hR
 have HR4 := Aside0.mk hC
 have HL4 := Aside0.mk hc
 clear hR hC hc
 subst e4
 go_wp2_with fail
 refine (faces_Genus.calls 40 3 A c tangramlaw12_wakes.es A1 c1 tangramlaw12_wakes.r _ _ w4 HC4.out HL.out HD4.out HL1.out tangramlaw12_wakes.c3).mono ?_
 rintro e w5 ⟨rfl, hb⟩
 have HB5 := Aside0.mk (HB4.out.trans (hb.mono HB4.out.size))
 have HX5 := Aside0.mk ((hb.block _ (Mem.lt_of HX4.out)).trans HX4.out)
 have HC5 := Aside0.mk (Kd.C_below HC4.out hb)
 have HD5 := Aside0.mk (Kd.C_below HD4.out hb)
 clear HB4 HX4 HC4 HD4
 first | clear x0 x1 | skip
 have x0 : w5.cell? ⟨b, 0, none⟩ = some (.int .i64 3) := Mem.heap_cell HX5.out rfl
 have x1 : w5.cell? ⟨b, 1, none⟩ = some (.slice A tangramlaw12_wakes.es.length c) := Mem.heap_cell HX5.out rfl
 have HR3b := Aside0.mk (Kd.C_below HR3a.out hb)
 clear HR3a
 have HR4a := Aside0.mk (Kd.C_below HR4.out hb)
 clear HR4
 clear hb x0 x1
 have hX := Mem.C_take (a := 2) HD5.out HL1.out (by decide)
 have hXe : (if c1 = 0 then A1 else A1.map (·.add (0 * Mem.KR.sz))) = A1 := by
   rw [Nat.zero_mul]
   cases A1 <;> simp [Addr.add_zero']
 rw [hXe] at hX
 have HXC : Aside0 (Kd.C Mem.KR w5 A1 (tangramlaw12_wakes.r.take 2).length (tangramlaw12_wakes.r.take 2)) := ⟨hX⟩
 have hle : (2 : Int) ≤ (c1 : Int) := by
   have : 3 ≤ c1 := HL1.out
   omega
 clear hX hXe
 go_upto_region 5 with (fail)
 have hb : Below w5.heap.size w5 w5.drew := (Below.refl _ _).drew
 have HD5 := HD5
 have E0 : Aside0 (w5.drew.cell? ⟨b, 0, none⟩ = some (.int .i64 3)) := ⟨Mem.heap_cell (w := w5) HX5.out rfl⟩
 have E1 : Aside0 (w5.drew.cell? ⟨b, 1, none⟩ = some (.slice A tangramlaw12_wakes.es.length c)) := ⟨Mem.heap_cell (w := w5) HX5.out rfl⟩
 have HC5d := Aside0.mk (Kd.C_below HC5.out hb)
 have HXd := Aside0.mk (Kd.C_below HXC.out hb)
 clear hb HXC
 refine start_ (n := 9) (S := fun w' => w'.cell? ⟨b, 0, none⟩ = some (.int .i64 3) ∧ w'.cell? ⟨b, 1, none⟩ = some (.slice A tangramlaw12_wakes.es.length c)) (ds := [3]) #[false, false, false, false, false, false, false, false, false] (by kernel_rfl) rfl rfl ⟨E0.out, E1.out⟩ (fun hHeld => ?_)
 refine pure_ (i := 1) (N := some 35) (v := ?_) (a' := ?_) #[false, true, false, false, false, false, false, false, false] rfl rfl (by kernel_rfl) (fun _ _ _ h => h) (Or.inl ⟨by rfl, ?_⟩) ?_ ?_
 rotate_left
 · intro w'
   go_simp
   with_reducible rfl
 rotate_left
 · simp only [Act.put, List.setIfInBounds_toArray, List.set_cons_zero, List.set_cons_succ, i64_w, i32_w]
   rfl
 refine pure_ (i := 2) (N := some 36) (v := ?_) (a' := ?_) #[false, true, true, false, false, false, false, false, false] rfl rfl (by kernel_rfl) (fun _ _ _ h => h) (Or.inl ⟨by rfl, ?_⟩) ?_ ?_
 rotate_left
 · intro w'
   go_simp
   with_reducible rfl
 rotate_left
 · simp only [Act.put, List.setIfInBounds_toArray, List.set_cons_zero, List.set_cons_succ, i64_w, i32_w]
   rfl
 refine take_ (i := 0) (N := some 34) (v := ?_) (a' := ?_) #[true, true, true, false, false, false, false, false, false] rfl rfl (by kernel_rfl) (fun _ _ _ h => h) (Or.inl ⟨by rfl, ?_⟩) hHeld ?_ ?_
 rotate_left
 · rintro w' ⟨s0, s1⟩
   go_simp
   with_reducible rfl
 rotate_left
 · simp only [Act.put, List.setIfInBounds_toArray, List.set_cons_zero, List.set_cons_succ, i64_w, i32_w]
   rfl
 refine last_ (i := 3) (N := some 37) #[true, true, true, true, false, false, false, false, false] rfl rfl (by kernel_rfl) (by decide) (fun K hK => ?_)
 refine goes_ Try.func10 (by kernel_rfl) rfl #[.agg #[.int .i64 3, .slice A tangramlaw12_wakes.es.length c], .slice A1 (tangramlaw12_wakes.r.take 2).length c1] (by rfl) rfl rfl (by simp only [List.map_toArray, List.map_cons, List.map_nil]; rfl) ?_
 with_reducible refine (faces_Of.calls 40 3 A c tangramlaw12_wakes.es A1 c1 (tangramlaw12_wakes.r.take 2) _ _ w5.drew HC5d.out HL.out HXd.out (Nat.le_trans (by decide) HL1.out) tangramlaw12_wakes.c4).mono ?_
 rintro e w6 ⟨v6, rfl, hR6, hb6⟩
 refine ⟨_, rfl, ?_⟩
 have HBq := Aside0.mk hb6
 clear hR6 hb6
 refine hK.out _ _ ?_
 clear hK K
 refine norm_ (a' := ?_) ?_ ?_
 rotate_left
 · show Act.put _ (some 37) _ = _
   simp only [Act.put, List.setIfInBounds_toArray, List.set_cons_zero, List.set_cons_succ, i64_w, i32_w]
   rfl
 refine pure_ (i := 4) (N := some 33) (v := ?_) (a' := ?_) #[true, true, true, true, true, false, false, false, false] rfl rfl (by kernel_rfl) (fun _ _ _ h => h) (Or.inl ⟨by rfl, ?_⟩) ?_ ?_
 rotate_left
 · intro w'
   go_simp
   with_reducible rfl
 rotate_left
 · simp only [Act.put, List.setIfInBounds_toArray, List.set_cons_zero, List.set_cons_succ, i64_w, i32_w]
   rfl
 refine pure_ (i := 5) (N := some 38) (v := ?_) (a' := ?_) #[true, true, true, true, true, true, false, false, false] rfl rfl (by kernel_rfl) (fun _ _ _ h => h) (Or.inl ⟨by rfl, ?_⟩) ?_ ?_
 rotate_left
 · intro w'
   go_simp
   with_reducible rfl
 rotate_left
 · simp only [Act.put, List.setIfInBounds_toArray, List.set_cons_zero, List.set_cons_succ, i64_w, i32_w]
   rfl
 refine pure_ (i := 6) (N := some 39) (v := ?_) (a' := ?_) #[true, true, true, true, true, true, true, false, false] rfl rfl (by kernel_rfl) (fun _ _ _ h => h) (Or.inl ⟨by rfl, ?_⟩) ?_ ?_
 rotate_left
 · intro w'
   go_simp
   with_reducible rfl
 rotate_left
 · simp only [Act.put, List.setIfInBounds_toArray, List.set_cons_zero, List.set_cons_succ, i64_w, i32_w]
   rfl
 refine pure_ (i := 7) (N := some 9) (v := ?_) (a' := ?_) #[true, true, true, true, true, true, true, true, false] rfl rfl (by kernel_rfl) (fun _ _ _ h => h) (Or.inl ⟨by rfl, ?_⟩) ?_ ?_
 rotate_left
 · intro w'
   go_simp
   with_reducible rfl
 rotate_left
 · simp only [Act.put, List.setIfInBounds_toArray, List.set_cons_zero, List.set_cons_succ, i64_w, i32_w]
   rfl
 refine pure_ (i := 8) (N := some 10) (v := ?_) (a' := ?_) #[true, true, true, true, true, true, true, true, true] rfl rfl (by kernel_rfl) (fun _ _ _ h => h) (Or.inl ⟨by rfl, ?_⟩) ?_ ?_
 rotate_left
 · intro w'
   go_simp
   with_reducible rfl
 rotate_left
 · simp only [Act.put, List.setIfInBounds_toArray, List.set_cons_zero, List.set_cons_succ, i64_w, i32_w]
   rfl
 refine done_ (by kernel_rfl) ?_
 have hb : Below w5.heap.size w5 w6 := (((Below.refl w5.heap.size w5).drew).trans HBq.out)
 have HB6 := Aside0.mk (HB5.out.trans (hb.mono HB5.out.size))
 have HX6 := Aside0.mk ((hb.block _ (Mem.lt_of HX5.out)).trans HX5.out)
 have HC6 := Aside0.mk (Kd.C_below HC5.out hb)
 have HD6 := Aside0.mk (Kd.C_below HD5.out hb)
 clear HB5 HX5 HC5 HD5
 first | clear x0 x1 | skip
 have x0 : w6.cell? ⟨b, 0, none⟩ = some (.int .i64 3) := Mem.heap_cell HX6.out rfl
 have x1 : w6.cell? ⟨b, 1, none⟩ = some (.slice A tangramlaw12_wakes.es.length c) := Mem.heap_cell HX6.out rfl
 have HR3c := Aside0.mk (Kd.C_below HR3b.out hb)
 clear HR3b
 have HR4b := Aside0.mk (Kd.C_below HR4a.out hb)
 clear HR4a
 clear hb HBq hle HXd HC5d E0 E1
 go_wp2_with fail
 refine (faces_Flat.calls 40 3 A c tangramlaw12_wakes.es A1 c1 tangramlaw12_wakes.r _ w6 HC6.out HL.out HD6.out HL1.out tangramlaw12_wakes.c5).mono ?_
 rintro e w7 ⟨rfl, hb⟩
 have HB7 := Aside0.mk (HB6.out.trans (hb.mono HB6.out.size))
 have HR3d := Aside0.mk (Kd.C_below HR3c.out hb)
 clear HR3c
 have HR4c := Aside0.mk (Kd.C_below HR4b.out hb)
 clear HR4b
 clear hb x0 x1 HB6 HX6 HC6 HD6
 have HQ8 : Aside0 (Kd.C Mem.KR ((Mem.lits w7 [[0, 4, 3], [1, 2, 5]]).alloc (.cells (Mem.outer w7.heap.size [[0, 4, 3], [1, 2, 5]]).toArray 36 (0, 0))) (some ⟨w7.heap.size + 1 + 1, 0, none⟩) 2 [[0, 4, 3], [1, 2, 5]]) := ⟨Mem.lits_reads w7 [[0, 4, 3], [1, 2, 5]] (by decide) (by decide)⟩
 have hb := Mem.lits_all w7 [[0, 4, 3], [1, 2, 5]]
 have HB8 := Aside0.mk (HB7.out.trans (hb.mono HB7.out.size))
 have HR3e := Aside0.mk (Kd.C_below HR3d.out hb)
 clear HR3d
 have HR4d := Aside0.mk (Kd.C_below HR4c.out hb)
 clear HR4c
 clear hb HB7
 go_wp2_with fail
 show Calls _ _ _ ((Mem.lits w7 [[0, 4, 3], [1, 2, 5]]).alloc (.cells (Mem.outer w7.heap.size [[0, 4, 3], [1, 2, 5]]).toArray 36 (0, 0))) _
 generalize (Mem.lits w7 [[0, 4, 3], [1, 2, 5]]).alloc (.cells (Mem.outer w7.heap.size [[0, 4, 3], [1, 2, 5]]).toArray 36 (0, 0)) = w8 at HQ8 HB8 HR3e HR4d ⊢
 refine (tangramref03_SameLists.calls 40 A3 c3 [[0, 4, 3], [1, 2, 5]] (some ⟨w7.heap.size + 1 + 1, 0, none⟩) 2 [[0, 4, 3], [1, 2, 5]] true w8 HR3e.out HL3.out HQ8.out (by decide) tangramlaw12_wakes.s1).mono ?_
 rintro e w9 ⟨rfl, hd⟩
 have hb := hd.below
 have HB9 := Aside0.mk (HB8.out.trans (hb.mono HB8.out.size))
 have HR4e := Aside0.mk (Kd.C_below HR4d.out hb)
 clear HR4d
 clear hb hd HQ8 HB8 HR3e
 have HIX : Aside0 (Mem.IRow (w9.alloc (.cells #[.int .i64 0, .int .i64 1, .int .i64 1, .int .i64 0, .int .i64 0, .int .i64 1] 3 (0, 0))) w9.heap.size [0, 1, 1, 0, 0, 1]) := ⟨Mem.heap_last w9 _⟩
 have hb := (Below.refl w9.heap.size w9).alloc (Nat.le_refl _) (.cells #[.int .i64 0, .int .i64 1, .int .i64 1, .int .i64 0, .int .i64 0, .int .i64 1] 3 (0, 0))
 have HBx := Aside0.mk (HB9.out.trans (hb.mono HB9.out.size))
 have HR4f := Aside0.mk (Kd.C_below HR4e.out hb)
 clear HR4e
 clear hb HB9
 go_wp2_with fail
 generalize w9.alloc (.cells #[.int .i64 0, .int .i64 1, .int .i64 1, .int .i64 0, .int .i64 0, .int .i64 1] 3 (0, 0)) = wx at HIX HBx HR4f ⊢
 refine (tangramref03_SameInts.calls 40 A4 c4 [0, 1, 1, 0, 0, 1] (some ⟨w9.heap.size, 0, none⟩) 6 [0, 1, 1, 0, 0, 1] true wx HR4f.out HL4.out (Mem.row_reads HIX.out (by decide)) (by decide) tangramlaw12_wakes.s2).mono ?_
 rintro e w10 ⟨rfl, hd⟩
 have hb := hd.below
 have HB10 := Aside0.mk (HBx.out.trans (hb.mono HBx.out.size))
 clear hb hd HIX HBx HR4f
 go_wp2_with fail
 go_ret
 exact ⟨rfl, HB10.out⟩
end Go.Proofs.Ytmikcfddipldnaa.GAll
namespace Go.Proofs.Ytmikcfddipldnaa.Rot
open Go.RowKit Go.Proofs.YtmikcfddipldnaaW.PrintWords Go.Proofs.YtmikcfddipldnaaW.PrintLast Go.Proofs.YtmikcfddipldnaaW.PrintMore Go.Proofs.Ytmikcfddipldnaa.GAll Go.Proofs.Ytmikcfddipldnaa.Mem Go.Proofs.Ytmikcfddipldnaa.Ring Go.Proofs.Ytmikcfddipldnaa.Face
set_option linter.unusedVariables false
set_option linter.unusedSimpArgs false
theorem iso_count {n : Nat} {l : List Ed} (hg : PureV.Good (n : Int) l) {ds : List Int} (hd : ds.length = n) (hv : ∀ v, v < n → gi ds v = ((leaving (frs l) v).length : Int)) (d : Nat) : ∀ i : Nat, i + d = n → Ev (fun k => comps_Isolated.l0 k 0 (loneTo l i : Int) ds (ds.length : Int) (i : Int)) (loneTo l n, 0) := by
 have hn := hg.2.1
 induction d with
 | zero =>
   intro i hi
   obtain rfl : i = n := by omega
   refine Ev.step (f := fun _ => some ((loneTo l i : Int), 0)) (fun k => ?_) (Ev.now _)
   simp only [comps_Isolated.l0]
   rw [if_neg (by omega)]
 | succ d ih =>
   intro i hi
   have H := ih (i + 1) (by omega)
   have hle := loneTo_le l i
   have hx := hv i (by omega)
   rw [leaving_cnt, frs_length] at hx
   rw [loneTo_succ] at H
   by_cases c : cnt (frs l) (2 * l.length) (i : Int) = 0
   · rw [if_pos c] at H
     refine Ev.step (fun k => ?_) H
     simp only [comps_Isolated.l0]
     rw [if_pos (by omega), if_pos (by omega), if_pos (by omega), gi_rd, hx, c, if_pos (show ((0 : Nat) : Int) = 0 from rfl), wad (by omega), wad (by omega)]
   · rw [if_neg c] at H
     refine Ev.step (fun k => ?_) H
     simp only [comps_Isolated.l0]
     rw [if_pos (by omega), if_pos (by omega), if_pos (by omega), gi_rd, hx, if_neg (by omega), wad (by omega)]
     rfl
theorem iso_ev {n : Nat} {l : List Ed} (hg : PureV.Good (n : Int) l) : Ev (fun k => comps_Isolated.f k (n : Int) l) ((loneTo l n : Int), 0) := by
 obtain ⟨b, h1, h2, h3⟩ := PureV.valid (n : Int) l
 rw [h3.2 hg] at h1
 obtain ⟨ds, e1, e2, e3⟩ := degrees_ev hg h1
 unfold comps_Isolated.f
 exact Ev.bind e1 (iso_count hg e2 e3 n 0 (by omega))
set_option maxHeartbeats 4000000 in
set_option maxRecDepth 100000 in
theorem euler_bad (k : Nat) (n : Int) (A : Option Addr) (c : Nat) (l : List Ed) (A1 : Option Addr) (c1 : Nat) (r : List (List Int)) (w : World) (hr : Kd.C k56 w A l.length l) (hc : l.length ≤ c) (hr1 : Kd.C (Kd.slice 3 (Kd.int .i64)) w A1 r.length r) (hc1 : r.length ≤ c1)
   {e : Int} {fs : List (List Int)} {ge : Int} {fl : Bool} (cg : tangramref03_Copy.f k n l = some (n, l)) (cr : tangramref11_Copy.f k r = some r) (h1 : faces_Of.f k n l r = some (fs, e)) (h2 : faces_Genus.f k n l r = some (ge, e)) (h3 : faces_Flat.f k n l r = some fl)
   (he : e ≠ 0) (hge : ge = 0) (hfl : fl = false) :
   Calls Try.prog 6 #[.agg #[.int .i64 n, .slice A l.length c], .slice A1 r.length c1] w fun e w' => e = .returned (.bool true) ∧ Below w.heap.size w w' := by
 have t1 : (e != 0) = true := bne_iff_ne.2 he
 have t2 : (ge == 0) = true := by rw [hge]; rfl
 have HFL := Aside0.mk hfl
 clear he hge hfl
 have HCG := Aside0.mk cg
 have HCQ := Aside0.mk cr
 have H1 := Aside0.mk h1
 have H2 := Aside0.mk h2
 have H3 := Aside0.mk h3
 clear cg cr h1 h2 h3
 have HX := Aside0.mk (heap_last w (.cells #[.int .i64 n, .slice A l.length c] 24 (0, 0)))
 have HB : Aside0 (Below w.heap.size w (w.alloc (.cells #[.int .i64 n, .slice A l.length c] 24 (0, 0)))) := ⟨(Below.refl _ _).alloc (Nat.le_refl _) _⟩
 have HG := Aside0.mk (Kd.C_below hr HB.out)
 have HR := Aside0.mk (Kd.C_below hr1 HB.out)
 have HCC := Aside0.mk hc
 have HCR := Aside0.mk hc1
 clear hr hr1 hc hc1
 go_enter Try.func6, Try.ntmps6
 go_wp2_with fail
 generalize w.alloc (.cells #[.int .i64 n, .slice A l.length c] 24 (0, 0)) = w0 at HX HB HG HR ⊢
 obtain ⟨b, hbb⟩ : ∃ b, b = w.heap.size := ⟨_, rfl⟩
 rw [← hbb] at HX ⊢
 clear hbb
 refine (tangramlaw12_wakes.calls true w0 rfl).mono ?_
 rintro e' w1 ⟨rfl, hb⟩
 replace HB := Aside0.mk (HB.out.trans (hb.mono HB.out.size))
 replace HX := Aside0.mk ((hb.block _ (lt_of HX.out)).trans HX.out)
 replace HG := Aside0.mk (Kd.C_below HG.out hb)
 replace HR := Aside0.mk (Kd.C_below HR.out hb)
 (try replace HGC := Aside0.mk (Kd.C_below HGC.out hb))
 (try replace HRC := Aside0.mk (Kd.C_below HRC.out hb))
 (try replace HV1 := Aside0.mk (Kd.C_below HV1.out hb))
 (try replace HV2 := Aside0.mk (Kd.C_below HV2.out hb))
 (try replace HV3 := Aside0.mk (Kd.C_below HV3.out hb))
 clear hb
 have x0 : w1.cell? ⟨b, 0, none⟩ = some (.int .i64 n) := heap_cell HX.out rfl
 have x1 : w1.cell? ⟨b, 1, none⟩ = some (.slice A l.length c) := heap_cell HX.out rfl
 go_wp2_with fail
 clear x0 x1
 refine (tangramref03_Copy.calls k n A c l n l w1 HG.out HCC.out HCG.out).mono ?_
 rintro e' w2 ⟨vg, rfl, hR, hb⟩
 replace HB := Aside0.mk (HB.out.trans (hb.mono HB.out.size))
 replace HX := Aside0.mk ((hb.block _ (lt_of HX.out)).trans HX.out)
 replace HG := Aside0.mk (Kd.C_below HG.out hb)
 replace HR := Aside0.mk (Kd.C_below HR.out hb)
 (try replace HGC := Aside0.mk (Kd.C_below HGC.out hb))
 (try replace HRC := Aside0.mk (Kd.C_below HRC.out hb))
 (try replace HV1 := Aside0.mk (Kd.C_below HV1.out hb))
 (try replace HV2 := Aside0.mk (Kd.C_below HV2.out hb))
 (try replace HV3 := Aside0.mk (Kd.C_below HV3.out hb))
 obtain ⟨Ag, cg, rfl, hcg, hR⟩ := Kd.R_reads hR
 have HGC := Aside0.mk hR
 have HGL := Aside0.mk hcg
 clear hb hR hcg
 go_wp2_with fail
 refine (tangramref11_Copy.calls k A1 c1 r r w2 HR.out HCR.out HCQ.out).mono ?_
 rintro e' w3 ⟨vr, rfl, hS, hb⟩
 replace HB := Aside0.mk (HB.out.trans (hb.mono HB.out.size))
 replace HX := Aside0.mk ((hb.block _ (lt_of HX.out)).trans HX.out)
 replace HG := Aside0.mk (Kd.C_below HG.out hb)
 replace HR := Aside0.mk (Kd.C_below HR.out hb)
 (try replace HGC := Aside0.mk (Kd.C_below HGC.out hb))
 (try replace HRC := Aside0.mk (Kd.C_below HRC.out hb))
 (try replace HV1 := Aside0.mk (Kd.C_below HV1.out hb))
 (try replace HV2 := Aside0.mk (Kd.C_below HV2.out hb))
 (try replace HV3 := Aside0.mk (Kd.C_below HV3.out hb))
 obtain ⟨Ar, cr, rfl, hcr, hS⟩ := Kd.S_reads hS
 have HRC := Aside0.mk hS
 have HRL := Aside0.mk hcr
 clear hb hS hcr
 go_wp2_with fail
 refine (faces_Of.calls k n Ag cg l Ar cr r fs e w3 HGC.out HGL.out HRC.out HRL.out H1.out).mono ?_
 rintro e' w4 ⟨vv, rfl, hS, hb⟩
 replace HB := Aside0.mk (HB.out.trans (hb.mono HB.out.size))
 replace HX := Aside0.mk ((hb.block _ (lt_of HX.out)).trans HX.out)
 replace HG := Aside0.mk (Kd.C_below HG.out hb)
 replace HR := Aside0.mk (Kd.C_below HR.out hb)
 (try replace HGC := Aside0.mk (Kd.C_below HGC.out hb))
 (try replace HRC := Aside0.mk (Kd.C_below HRC.out hb))
 (try replace HV1 := Aside0.mk (Kd.C_below HV1.out hb))
 (try replace HV2 := Aside0.mk (Kd.C_below HV2.out hb))
 (try replace HV3 := Aside0.mk (Kd.C_below HV3.out hb))
 obtain ⟨A4, c4, rfl, hcv, hS⟩ := Kd.S_reads hS
 have HV1 := Aside0.mk hS
 have HL1 := Aside0.mk hcv
 (try clear HGC HGL)
 (try clear HRC HRL)
 clear hb hS hcv
 have x0 : w4.cell? ⟨b, 0, none⟩ = some (.int .i64 n) := heap_cell HX.out rfl
 have x1 : w4.cell? ⟨b, 1, none⟩ = some (.slice A l.length c) := heap_cell HX.out rfl
 go_wp2_with fail
 clear x0 x1
 refine (tangramref03_Copy.calls k n A c l n l w4 HG.out HCC.out HCG.out).mono ?_
 rintro e' w5 ⟨vg, rfl, hR, hb⟩
 replace HB := Aside0.mk (HB.out.trans (hb.mono HB.out.size))
 replace HX := Aside0.mk ((hb.block _ (lt_of HX.out)).trans HX.out)
 replace HG := Aside0.mk (Kd.C_below HG.out hb)
 replace HR := Aside0.mk (Kd.C_below HR.out hb)
 (try replace HGC := Aside0.mk (Kd.C_below HGC.out hb))
 (try replace HRC := Aside0.mk (Kd.C_below HRC.out hb))
 (try replace HV1 := Aside0.mk (Kd.C_below HV1.out hb))
 (try replace HV2 := Aside0.mk (Kd.C_below HV2.out hb))
 (try replace HV3 := Aside0.mk (Kd.C_below HV3.out hb))
 obtain ⟨Ag, cg, rfl, hcg, hR⟩ := Kd.R_reads hR
 have HGC := Aside0.mk hR
 have HGL := Aside0.mk hcg
 clear hb hR hcg
 go_wp2_with fail
 refine (tangramref11_Copy.calls k A1 c1 r r w5 HR.out HCR.out HCQ.out).mono ?_
 rintro e' w6 ⟨vr, rfl, hS, hb⟩
 replace HB := Aside0.mk (HB.out.trans (hb.mono HB.out.size))
 replace HX := Aside0.mk ((hb.block _ (lt_of HX.out)).trans HX.out)
 replace HG := Aside0.mk (Kd.C_below HG.out hb)
 replace HR := Aside0.mk (Kd.C_below HR.out hb)
 (try replace HGC := Aside0.mk (Kd.C_below HGC.out hb))
 (try replace HRC := Aside0.mk (Kd.C_below HRC.out hb))
 (try replace HV1 := Aside0.mk (Kd.C_below HV1.out hb))
 (try replace HV2 := Aside0.mk (Kd.C_below HV2.out hb))
 (try replace HV3 := Aside0.mk (Kd.C_below HV3.out hb))
 obtain ⟨Ar, cr, rfl, hcr, hS⟩ := Kd.S_reads hS
 have HRC := Aside0.mk hS
 have HRL := Aside0.mk hcr
 clear hb hS hcr
 go_wp2_with fail
 refine (faces_Genus.calls k n Ag cg l Ar cr r ge e w6 HGC.out HGL.out HRC.out HRL.out H2.out).mono ?_
 rintro e' w7 ⟨rfl, hb⟩
 replace HB := Aside0.mk (HB.out.trans (hb.mono HB.out.size))
 replace HX := Aside0.mk ((hb.block _ (lt_of HX.out)).trans HX.out)
 replace HG := Aside0.mk (Kd.C_below HG.out hb)
 replace HR := Aside0.mk (Kd.C_below HR.out hb)
 (try replace HGC := Aside0.mk (Kd.C_below HGC.out hb))
 (try replace HRC := Aside0.mk (Kd.C_below HRC.out hb))
 (try replace HV1 := Aside0.mk (Kd.C_below HV1.out hb))
 (try replace HV2 := Aside0.mk (Kd.C_below HV2.out hb))
 (try replace HV3 := Aside0.mk (Kd.C_below HV3.out hb))
 (try clear HGC HGL)
 (try clear HRC HRL)
 clear hb
 have x0 : w7.cell? ⟨b, 0, none⟩ = some (.int .i64 n) := heap_cell HX.out rfl
 have x1 : w7.cell? ⟨b, 1, none⟩ = some (.slice A l.length c) := heap_cell HX.out rfl
 go_wp2_with fail
 clear x0 x1
 refine (tangramref03_Copy.calls k n A c l n l w7 HG.out HCC.out HCG.out).mono ?_
 rintro e' w8 ⟨vg, rfl, hR, hb⟩
 replace HB := Aside0.mk (HB.out.trans (hb.mono HB.out.size))
 replace HX := Aside0.mk ((hb.block _ (lt_of HX.out)).trans HX.out)
 replace HG := Aside0.mk (Kd.C_below HG.out hb)
 replace HR := Aside0.mk (Kd.C_below HR.out hb)
 (try replace HGC := Aside0.mk (Kd.C_below HGC.out hb))
 (try replace HRC := Aside0.mk (Kd.C_below HRC.out hb))
 (try replace HV1 := Aside0.mk (Kd.C_below HV1.out hb))
 (try replace HV2 := Aside0.mk (Kd.C_below HV2.out hb))
 (try replace HV3 := Aside0.mk (Kd.C_below HV3.out hb))
 obtain ⟨Ag, cg, rfl, hcg, hR⟩ := Kd.R_reads hR
 have HGC := Aside0.mk hR
 have HGL := Aside0.mk hcg
 clear hb hR hcg
 go_wp2_with fail
 refine (tangramref11_Copy.calls k A1 c1 r r w8 HR.out HCR.out HCQ.out).mono ?_
 rintro e' w9 ⟨vr, rfl, hS, hb⟩
 replace HB := Aside0.mk (HB.out.trans (hb.mono HB.out.size))
 replace HX := Aside0.mk ((hb.block _ (lt_of HX.out)).trans HX.out)
 replace HG := Aside0.mk (Kd.C_below HG.out hb)
 replace HR := Aside0.mk (Kd.C_below HR.out hb)
 (try replace HGC := Aside0.mk (Kd.C_below HGC.out hb))
 (try replace HRC := Aside0.mk (Kd.C_below HRC.out hb))
 (try replace HV1 := Aside0.mk (Kd.C_below HV1.out hb))
 (try replace HV2 := Aside0.mk (Kd.C_below HV2.out hb))
 (try replace HV3 := Aside0.mk (Kd.C_below HV3.out hb))
 obtain ⟨Ar, cr, rfl, hcr, hS⟩ := Kd.S_reads hS
 have HRC := Aside0.mk hS
 have HRL := Aside0.mk hcr
 clear hb hS hcr
 go_wp2_with fail
 refine (faces_Flat.calls k n Ag cg l Ar cr r fl w9 HGC.out HGL.out HRC.out HRL.out H3.out).mono ?_
 rintro e' w10 ⟨rfl, hb⟩
 replace HB := Aside0.mk (HB.out.trans (hb.mono HB.out.size))
 replace HX := Aside0.mk ((hb.block _ (lt_of HX.out)).trans HX.out)
 replace HG := Aside0.mk (Kd.C_below HG.out hb)
 replace HR := Aside0.mk (Kd.C_below HR.out hb)
 (try replace HGC := Aside0.mk (Kd.C_below HGC.out hb))
 (try replace HRC := Aside0.mk (Kd.C_below HRC.out hb))
 (try replace HV1 := Aside0.mk (Kd.C_below HV1.out hb))
 (try replace HV2 := Aside0.mk (Kd.C_below HV2.out hb))
 (try replace HV3 := Aside0.mk (Kd.C_below HV3.out hb))
 (try clear HGC HGL)
 (try clear HRC HRL)
 clear hb
 have t0 : (e != e) = false := bne_eq_false_iff_eq.2 rfl
 go_wp2_with fail
 go_ret
 exact ⟨by simp [HFL.out], HB.out⟩
set_option maxHeartbeats 4000000 in
set_option maxRecDepth 100000 in
theorem euler_ok (k : Nat) (n : Int) (A : Option Addr) (c : Nat) (l : List Ed) (A1 : Option Addr) (c1 : Nat) (r : List (List Int)) (w : World) (hr : Kd.C k56 w A l.length l) (hc : l.length ≤ c) (hr1 : Kd.C (Kd.slice 3 (Kd.int .i64)) w A1 r.length r) (hc1 : r.length ≤ c1)
   {e : Int} {fs : List (List Int)} {ge : Int} {fl : Bool} (cg : tangramref03_Copy.f k n l = some (n, l)) (cr : tangramref11_Copy.f k r = some r) (h1 : faces_Of.f k n l r = some (fs, e)) (h2 : faces_Genus.f k n l r = some (ge, e)) (h3 : faces_Flat.f k n l r = some fl)
   {o : List Int} {p i : Int} (h4 : comps_Of.f k n l = some (o, p, 0)) (h5 : comps_Isolated.f k n l = some (i, 0)) (he : e = 0) (hge : 0 ≤ ge) (hfl : fl = (ge == 0)) (hn : 0 ≤ n ∧ n ≤ 9000000) (hl : l.length ≤ 9000000) (hfs : fs.length ≤ 9000000) (hp : 0 ≤ p ∧ p ≤ 9000000) (hi : 0 ≤ i ∧ i ≤ 9000000) (hgb : ge ≤ 9000000) (heq : n - l.length + fs.length = 2 * p - i - 2 * ge) :
   Calls Try.prog 6 #[.agg #[.int .i64 n, .slice A l.length c], .slice A1 r.length c1] w fun e w' => e = .returned (.bool true) ∧ Below w.heap.size w w' := by
 have t1 : (e != 0) = false := bne_eq_false_iff_eq.2 he
 have H4 := Aside0.mk h4
 have H5 := Aside0.mk h5
 have HE := Aside0.mk he
 have HFL := Aside0.mk hfl
 clear h4 h5 he hfl
 have HNUM : Aside0 (0 ≤ ge ∧ (0 ≤ n ∧ n ≤ 9000000) ∧ l.length ≤ 9000000 ∧ fs.length ≤ 9000000 ∧ (0 ≤ p ∧ p ≤ 9000000) ∧ (0 ≤ i ∧ i ≤ 9000000) ∧ ge ≤ 9000000 ∧ n - l.length + fs.length = 2 * p - i - 2 * ge) := ⟨hge, hn, hl, hfs, hp, hi, hgb, heq⟩
 clear hge hn hl hfs hp hi hgb heq
 have HCG := Aside0.mk cg
 have HCQ := Aside0.mk cr
 have H1 := Aside0.mk h1
 have H2 := Aside0.mk h2
 have H3 := Aside0.mk h3
 clear cg cr h1 h2 h3
 have HX := Aside0.mk (heap_last w (.cells #[.int .i64 n, .slice A l.length c] 24 (0, 0)))
 have HB : Aside0 (Below w.heap.size w (w.alloc (.cells #[.int .i64 n, .slice A l.length c] 24 (0, 0)))) := ⟨(Below.refl _ _).alloc (Nat.le_refl _) _⟩
 have HG := Aside0.mk (Kd.C_below hr HB.out)
 have HR := Aside0.mk (Kd.C_below hr1 HB.out)
 have HCC := Aside0.mk hc
 have HCR := Aside0.mk hc1
 clear hr hr1 hc hc1
 go_enter Try.func6, Try.ntmps6
 go_wp2_with fail
 generalize w.alloc (.cells #[.int .i64 n, .slice A l.length c] 24 (0, 0)) = w0 at HX HB HG HR ⊢
 obtain ⟨b, hbb⟩ : ∃ b, b = w.heap.size := ⟨_, rfl⟩
 rw [← hbb] at HX ⊢
 clear hbb
 refine (tangramlaw12_wakes.calls true w0 rfl).mono ?_
 rintro e' w1 ⟨rfl, hb⟩
 replace HB := Aside0.mk (HB.out.trans (hb.mono HB.out.size))
 replace HX := Aside0.mk ((hb.block _ (lt_of HX.out)).trans HX.out)
 replace HG := Aside0.mk (Kd.C_below HG.out hb)
 replace HR := Aside0.mk (Kd.C_below HR.out hb)
 (try replace HGC := Aside0.mk (Kd.C_below HGC.out hb))
 (try replace HRC := Aside0.mk (Kd.C_below HRC.out hb))
 (try replace HV1 := Aside0.mk (Kd.C_below HV1.out hb))
 (try replace HV2 := Aside0.mk (Kd.C_below HV2.out hb))
 (try replace HV3 := Aside0.mk (Kd.C_below HV3.out hb))
 clear hb
 have x0 : w1.cell? ⟨b, 0, none⟩ = some (.int .i64 n) := heap_cell HX.out rfl
 have x1 : w1.cell? ⟨b, 1, none⟩ = some (.slice A l.length c) := heap_cell HX.out rfl
 go_wp2_with fail
 clear x0 x1
 refine (tangramref03_Copy.calls k n A c l n l w1 HG.out HCC.out HCG.out).mono ?_
 rintro e' w2 ⟨vg, rfl, hR, hb⟩
 replace HB := Aside0.mk (HB.out.trans (hb.mono HB.out.size))
 replace HX := Aside0.mk ((hb.block _ (lt_of HX.out)).trans HX.out)
 replace HG := Aside0.mk (Kd.C_below HG.out hb)
 replace HR := Aside0.mk (Kd.C_below HR.out hb)
 (try replace HGC := Aside0.mk (Kd.C_below HGC.out hb))
 (try replace HRC := Aside0.mk (Kd.C_below HRC.out hb))
 (try replace HV1 := Aside0.mk (Kd.C_below HV1.out hb))
 (try replace HV2 := Aside0.mk (Kd.C_below HV2.out hb))
 (try replace HV3 := Aside0.mk (Kd.C_below HV3.out hb))
 obtain ⟨Ag, cg, rfl, hcg, hR⟩ := Kd.R_reads hR
 have HGC := Aside0.mk hR
 have HGL := Aside0.mk hcg
 clear hb hR hcg
 go_wp2_with fail
 refine (tangramref11_Copy.calls k A1 c1 r r w2 HR.out HCR.out HCQ.out).mono ?_
 rintro e' w3 ⟨vr, rfl, hS, hb⟩
 replace HB := Aside0.mk (HB.out.trans (hb.mono HB.out.size))
 replace HX := Aside0.mk ((hb.block _ (lt_of HX.out)).trans HX.out)
 replace HG := Aside0.mk (Kd.C_below HG.out hb)
 replace HR := Aside0.mk (Kd.C_below HR.out hb)
 (try replace HGC := Aside0.mk (Kd.C_below HGC.out hb))
 (try replace HRC := Aside0.mk (Kd.C_below HRC.out hb))
 (try replace HV1 := Aside0.mk (Kd.C_below HV1.out hb))
 (try replace HV2 := Aside0.mk (Kd.C_below HV2.out hb))
 (try replace HV3 := Aside0.mk (Kd.C_below HV3.out hb))
 obtain ⟨Ar, cr, rfl, hcr, hS⟩ := Kd.S_reads hS
 have HRC := Aside0.mk hS
 have HRL := Aside0.mk hcr
 clear hb hS hcr
 go_wp2_with fail
 refine (faces_Of.calls k n Ag cg l Ar cr r fs e w3 HGC.out HGL.out HRC.out HRL.out H1.out).mono ?_
 rintro e' w4 ⟨vv, rfl, hS, hb⟩
 replace HB := Aside0.mk (HB.out.trans (hb.mono HB.out.size))
 replace HX := Aside0.mk ((hb.block _ (lt_of HX.out)).trans HX.out)
 replace HG := Aside0.mk (Kd.C_below HG.out hb)
 replace HR := Aside0.mk (Kd.C_below HR.out hb)
 (try replace HGC := Aside0.mk (Kd.C_below HGC.out hb))
 (try replace HRC := Aside0.mk (Kd.C_below HRC.out hb))
 (try replace HV1 := Aside0.mk (Kd.C_below HV1.out hb))
 (try replace HV2 := Aside0.mk (Kd.C_below HV2.out hb))
 (try replace HV3 := Aside0.mk (Kd.C_below HV3.out hb))
 obtain ⟨A4, c4, rfl, hcv, hS⟩ := Kd.S_reads hS
 have HV1 := Aside0.mk hS
 have HL1 := Aside0.mk hcv
 (try clear HGC HGL)
 (try clear HRC HRL)
 clear hb hS hcv
 have x0 : w4.cell? ⟨b, 0, none⟩ = some (.int .i64 n) := heap_cell HX.out rfl
 have x1 : w4.cell? ⟨b, 1, none⟩ = some (.slice A l.length c) := heap_cell HX.out rfl
 go_wp2_with fail
 clear x0 x1
 refine (tangramref03_Copy.calls k n A c l n l w4 HG.out HCC.out HCG.out).mono ?_
 rintro e' w5 ⟨vg, rfl, hR, hb⟩
 replace HB := Aside0.mk (HB.out.trans (hb.mono HB.out.size))
 replace HX := Aside0.mk ((hb.block _ (lt_of HX.out)).trans HX.out)
 replace HG := Aside0.mk (Kd.C_below HG.out hb)
 replace HR := Aside0.mk (Kd.C_below HR.out hb)
 (try replace HGC := Aside0.mk (Kd.C_below HGC.out hb))
 (try replace HRC := Aside0.mk (Kd.C_below HRC.out hb))
 (try replace HV1 := Aside0.mk (Kd.C_below HV1.out hb))
 (try replace HV2 := Aside0.mk (Kd.C_below HV2.out hb))
 (try replace HV3 := Aside0.mk (Kd.C_below HV3.out hb))
 obtain ⟨Ag, cg, rfl, hcg, hR⟩ := Kd.R_reads hR
 have HGC := Aside0.mk hR
 have HGL := Aside0.mk hcg
 clear hb hR hcg
 go_wp2_with fail
 refine (tangramref11_Copy.calls k A1 c1 r r w5 HR.out HCR.out HCQ.out).mono ?_
 rintro e' w6 ⟨vr, rfl, hS, hb⟩
 replace HB := Aside0.mk (HB.out.trans (hb.mono HB.out.size))
 replace HX := Aside0.mk ((hb.block _ (lt_of HX.out)).trans HX.out)
 replace HG := Aside0.mk (Kd.C_below HG.out hb)
 replace HR := Aside0.mk (Kd.C_below HR.out hb)
 (try replace HGC := Aside0.mk (Kd.C_below HGC.out hb))
 (try replace HRC := Aside0.mk (Kd.C_below HRC.out hb))
 (try replace HV1 := Aside0.mk (Kd.C_below HV1.out hb))
 (try replace HV2 := Aside0.mk (Kd.C_below HV2.out hb))
 (try replace HV3 := Aside0.mk (Kd.C_below HV3.out hb))
 obtain ⟨Ar, cr, rfl, hcr, hS⟩ := Kd.S_reads hS
 have HRC := Aside0.mk hS
 have HRL := Aside0.mk hcr
 clear hb hS hcr
 go_wp2_with fail
 refine (faces_Genus.calls k n Ag cg l Ar cr r ge e w6 HGC.out HGL.out HRC.out HRL.out H2.out).mono ?_
 rintro e' w7 ⟨rfl, hb⟩
 replace HB := Aside0.mk (HB.out.trans (hb.mono HB.out.size))
 replace HX := Aside0.mk ((hb.block _ (lt_of HX.out)).trans HX.out)
 replace HG := Aside0.mk (Kd.C_below HG.out hb)
 replace HR := Aside0.mk (Kd.C_below HR.out hb)
 (try replace HGC := Aside0.mk (Kd.C_below HGC.out hb))
 (try replace HRC := Aside0.mk (Kd.C_below HRC.out hb))
 (try replace HV1 := Aside0.mk (Kd.C_below HV1.out hb))
 (try replace HV2 := Aside0.mk (Kd.C_below HV2.out hb))
 (try replace HV3 := Aside0.mk (Kd.C_below HV3.out hb))
 (try clear HGC HGL)
 (try clear HRC HRL)
 clear hb
 have x0 : w7.cell? ⟨b, 0, none⟩ = some (.int .i64 n) := heap_cell HX.out rfl
 have x1 : w7.cell? ⟨b, 1, none⟩ = some (.slice A l.length c) := heap_cell HX.out rfl
 go_wp2_with fail
 clear x0 x1
 refine (tangramref03_Copy.calls k n A c l n l w7 HG.out HCC.out HCG.out).mono ?_
 rintro e' w8 ⟨vg, rfl, hR, hb⟩
 replace HB := Aside0.mk (HB.out.trans (hb.mono HB.out.size))
 replace HX := Aside0.mk ((hb.block _ (lt_of HX.out)).trans HX.out)
 replace HG := Aside0.mk (Kd.C_below HG.out hb)
 replace HR := Aside0.mk (Kd.C_below HR.out hb)
 (try replace HGC := Aside0.mk (Kd.C_below HGC.out hb))
 (try replace HRC := Aside0.mk (Kd.C_below HRC.out hb))
 (try replace HV1 := Aside0.mk (Kd.C_below HV1.out hb))
 (try replace HV2 := Aside0.mk (Kd.C_below HV2.out hb))
 (try replace HV3 := Aside0.mk (Kd.C_below HV3.out hb))
 obtain ⟨Ag, cg, rfl, hcg, hR⟩ := Kd.R_reads hR
 have HGC := Aside0.mk hR
 have HGL := Aside0.mk hcg
 clear hb hR hcg
 go_wp2_with fail
 refine (tangramref11_Copy.calls k A1 c1 r r w8 HR.out HCR.out HCQ.out).mono ?_
 rintro e' w9 ⟨vr, rfl, hS, hb⟩
 replace HB := Aside0.mk (HB.out.trans (hb.mono HB.out.size))
 replace HX := Aside0.mk ((hb.block _ (lt_of HX.out)).trans HX.out)
 replace HG := Aside0.mk (Kd.C_below HG.out hb)
 replace HR := Aside0.mk (Kd.C_below HR.out hb)
 (try replace HGC := Aside0.mk (Kd.C_below HGC.out hb))
 (try replace HRC := Aside0.mk (Kd.C_below HRC.out hb))
 (try replace HV1 := Aside0.mk (Kd.C_below HV1.out hb))
 (try replace HV2 := Aside0.mk (Kd.C_below HV2.out hb))
 (try replace HV3 := Aside0.mk (Kd.C_below HV3.out hb))
 obtain ⟨Ar, cr, rfl, hcr, hS⟩ := Kd.S_reads hS
 have HRC := Aside0.mk hS
 have HRL := Aside0.mk hcr
 clear hb hS hcr
 go_wp2_with fail
 refine (faces_Flat.calls k n Ag cg l Ar cr r fl w9 HGC.out HGL.out HRC.out HRL.out H3.out).mono ?_
 rintro e' w10 ⟨rfl, hb⟩
 replace HB := Aside0.mk (HB.out.trans (hb.mono HB.out.size))
 replace HX := Aside0.mk ((hb.block _ (lt_of HX.out)).trans HX.out)
 replace HG := Aside0.mk (Kd.C_below HG.out hb)
 replace HR := Aside0.mk (Kd.C_below HR.out hb)
 (try replace HGC := Aside0.mk (Kd.C_below HGC.out hb))
 (try replace HRC := Aside0.mk (Kd.C_below HRC.out hb))
 (try replace HV1 := Aside0.mk (Kd.C_below HV1.out hb))
 (try replace HV2 := Aside0.mk (Kd.C_below HV2.out hb))
 (try replace HV3 := Aside0.mk (Kd.C_below HV3.out hb))
 (try clear HGC HGL)
 (try clear HRC HRL)
 clear hb
 have t0 : (e != e) = false := bne_eq_false_iff_eq.2 rfl
 have x0 : w10.cell? ⟨b, 0, none⟩ = some (.int .i64 n) := heap_cell HX.out rfl
 have x1 : w10.cell? ⟨b, 1, none⟩ = some (.slice A l.length c) := heap_cell HX.out rfl
 go_wp2_with fail
 clear x0 x1
 refine (tangramref03_Copy.calls k n A c l n l w10 HG.out HCC.out HCG.out).mono ?_
 rintro e' w11 ⟨vg, rfl, hR, hb⟩
 replace HB := Aside0.mk (HB.out.trans (hb.mono HB.out.size))
 replace HX := Aside0.mk ((hb.block _ (lt_of HX.out)).trans HX.out)
 replace HG := Aside0.mk (Kd.C_below HG.out hb)
 replace HR := Aside0.mk (Kd.C_below HR.out hb)
 (try replace HGC := Aside0.mk (Kd.C_below HGC.out hb))
 (try replace HRC := Aside0.mk (Kd.C_below HRC.out hb))
 (try replace HV1 := Aside0.mk (Kd.C_below HV1.out hb))
 (try replace HV2 := Aside0.mk (Kd.C_below HV2.out hb))
 (try replace HV3 := Aside0.mk (Kd.C_below HV3.out hb))
 obtain ⟨Ag, cg, rfl, hcg, hR⟩ := Kd.R_reads hR
 have HGC := Aside0.mk hR
 have HGL := Aside0.mk hcg
 clear hb hR hcg
 go_wp2_with fail
 refine (comps_Of.calls k n Ag cg l o p 0 w11 HGC.out HGL.out H4.out).mono ?_
 rintro e' w12 ⟨vv, rfl, hS, hb⟩
 replace HB := Aside0.mk (HB.out.trans (hb.mono HB.out.size))
 replace HX := Aside0.mk ((hb.block _ (lt_of HX.out)).trans HX.out)
 replace HG := Aside0.mk (Kd.C_below HG.out hb)
 replace HR := Aside0.mk (Kd.C_below HR.out hb)
 (try replace HGC := Aside0.mk (Kd.C_below HGC.out hb))
 (try replace HRC := Aside0.mk (Kd.C_below HRC.out hb))
 (try replace HV1 := Aside0.mk (Kd.C_below HV1.out hb))
 (try replace HV2 := Aside0.mk (Kd.C_below HV2.out hb))
 (try replace HV3 := Aside0.mk (Kd.C_below HV3.out hb))
 obtain ⟨A12, c12, rfl, hcv, hS⟩ := Kd.R_reads hS
 have HV2 := Aside0.mk hS
 have HL2 := Aside0.mk hcv
 (try clear HGC HGL)
 (try clear HRC HRL)
 clear hb hS hcv
 clear HV2 HL2
 have x0 : w12.cell? ⟨b, 0, none⟩ = some (.int .i64 n) := heap_cell HX.out rfl
 have x1 : w12.cell? ⟨b, 1, none⟩ = some (.slice A l.length c) := heap_cell HX.out rfl
 go_wp2_with fail
 clear x0 x1
 refine (tangramref03_Copy.calls k n A c l n l w12 HG.out HCC.out HCG.out).mono ?_
 rintro e' w13 ⟨vg, rfl, hR, hb⟩
 replace HB := Aside0.mk (HB.out.trans (hb.mono HB.out.size))
 replace HX := Aside0.mk ((hb.block _ (lt_of HX.out)).trans HX.out)
 replace HG := Aside0.mk (Kd.C_below HG.out hb)
 replace HR := Aside0.mk (Kd.C_below HR.out hb)
 (try replace HGC := Aside0.mk (Kd.C_below HGC.out hb))
 (try replace HRC := Aside0.mk (Kd.C_below HRC.out hb))
 (try replace HV1 := Aside0.mk (Kd.C_below HV1.out hb))
 (try replace HV2 := Aside0.mk (Kd.C_below HV2.out hb))
 (try replace HV3 := Aside0.mk (Kd.C_below HV3.out hb))
 obtain ⟨Ag, cg, rfl, hcg, hR⟩ := Kd.R_reads hR
 have HGC := Aside0.mk hR
 have HGL := Aside0.mk hcg
 clear hb hR hcg
 go_wp2_with fail
 refine (comps_Isolated.calls k n Ag cg l i 0 w13 HGC.out HGL.out H5.out).mono ?_
 rintro e' w14 ⟨rfl, hb⟩
 replace HB := Aside0.mk (HB.out.trans (hb.mono HB.out.size))
 replace HX := Aside0.mk ((hb.block _ (lt_of HX.out)).trans HX.out)
 replace HG := Aside0.mk (Kd.C_below HG.out hb)
 replace HR := Aside0.mk (Kd.C_below HR.out hb)
 (try replace HGC := Aside0.mk (Kd.C_below HGC.out hb))
 (try replace HRC := Aside0.mk (Kd.C_below HRC.out hb))
 (try replace HV1 := Aside0.mk (Kd.C_below HV1.out hb))
 (try replace HV2 := Aside0.mk (Kd.C_below HV2.out hb))
 (try replace HV3 := Aside0.mk (Kd.C_below HV3.out hb))
 (try clear HGC HGL)
 (try clear HRC HRL)
 clear hb
 have x0 : w14.cell? ⟨b, 0, none⟩ = some (.int .i64 n) := heap_cell HX.out rfl
 have x1 : w14.cell? ⟨b, 1, none⟩ = some (.slice A l.length c) := heap_cell HX.out rfl
 have hh := HNUM.out
 obtain ⟨a1, ha1⟩ : ∃ a1, a1 = n - (l.length : Int) := ⟨_, rfl⟩
 obtain ⟨a2, ha2⟩ : ∃ a2, a2 = a1 + (fs.length : Int) := ⟨_, rfl⟩
 obtain ⟨a3, ha3⟩ : ∃ a3, a3 = 2 * p := ⟨_, rfl⟩
 obtain ⟨a4, ha4⟩ : ∃ a4, a4 = a3 - i := ⟨_, rfl⟩
 obtain ⟨a5, ha5⟩ : ∃ a5, a5 = 2 * ge := ⟨_, rfl⟩
 have q1 : IntKind.i64.wrap (n - (l.length : Int)) = a1 := by rw [IntWalk.i64_in _ (by omega)]; omega
 have q2 : IntKind.i64.wrap (a1 + (fs.length : Int)) = a2 := by rw [IntWalk.i64_in _ (by omega)]; omega
 have q3 : IntKind.i64.wrap (2 * p) = a3 := by rw [IntWalk.i64_in _ (by omega)]; omega
 have q4 : IntKind.i64.wrap (a3 - i) = a4 := by rw [IntWalk.i64_in _ (by omega)]; omega
 have q5 : IntKind.i64.wrap (2 * ge) = a5 := by rw [IntWalk.i64_in _ (by omega)]; omega
 have q6 : IntKind.i64.wrap (a4 - a5) = a2 := by rw [IntWalk.i64_in _ (by omega)]; omega
 have t2 : (a2 == a2) = true := beq_self_eq_true a2
 have t3 : decide (ge ≥ 0) = true := decide_eq_true hh.1
 have t4 : (fl == (ge == 0)) = true := by rw [HFL.out]; exact beq_self_eq_true _
 clear hh ha1 ha2 ha3 ha4 ha5
 go_wp2_with fail
 go_ret
 exact ⟨by simp [t4], HB.out⟩
theorem FacesEuler (a0_0 : Int) (A0_1 : Option Addr) (c0_1 : Nat) (l0_1 : List Ed) (A1 : Option Addr) (c1 : Nat) (l1 : List (List Int)) (w : World) (hr0_1 : Kd.C k56 w A0_1 l0_1.length l0_1) (hc0_1 : l0_1.length ≤ c0_1) (hr1 : Kd.C (Kd.slice 3 (Kd.int .i64)) w A1 l1.length l1) (hc1 : l1.length ≤ c1)
   (g0 : Open.I64 a0_0 ∧ l0_1.length * 16 ≤ 140737488351232 ∧ ∀ x ∈ l0_1, Open.I64 x.f0 ∧ Open.I64 x.f1) (g1 : l1.length * 24 ≤ 140737488351232 ∧ ∀ x ∈ l1, x.length * 8 ≤ 140737488351232 ∧ ∀ y ∈ x, Open.I64 y) :
   Calls Try.prog 6 #[.agg #[.int .i64 a0_0, .slice A0_1 l0_1.length c0_1], .slice A1 l1.length c1] w fun e w' => e = .returned (.bool true) ∧ Below w.heap.size w w' := by
 have hs : Small l1 := ⟨g1.1, fun l hl => (g1.2 l hl).1⟩
 obtain ⟨K1, q1⟩ := copy3_ev a0_0 l0_1 (by omega)
 obtain ⟨K2, q2⟩ := copy11_ev l1 hs
 obtain ⟨res, h1, h2, h3, h4, h5⟩ := both_check a0_0 l0_1 l1 hs
 by_cases he : res.2 = 0
 · obtain ⟨N, rfl, hg, hr⟩ := h4.1 he
   have hm : IsMap N l0_1 l1 := ⟨hg, hr⟩
   rw [h3 he] at h1
   obtain ⟨K3, q3⟩ := of_ok hm h1
   obtain ⟨K4, q4⟩ := genus_ok hm h1
   obtain ⟨K5, q5⟩ := flat_ok hm h1
   obtain ⟨K6, q6⟩ := comps_ev hg
   obtain ⟨K7, q7⟩ := iso_ev hg
   have hll := hg.2.2.1
   have hn := hg.2.1
   have e1 := hm.genus_eq
   have e2 := lone_eq hm
   have e3 := lone_le hm
   have e4 := parts_le hg
   have e5 := hm.lists.1
   have e6 := hm.genus_bound
   have e7 := hm.genus_pos
   exact euler_ok (K1 + K2 + K3 + K4 + K5 + K6 + K7) (N : Int) A0_1 c0_1 l0_1 A1 c1 l1 w hr0_1 hc0_1 hr1 hc1 (q1 _ (by omega)) (q2 _ (by omega)) (q3 _ (by omega)) (q4 _ (by omega)) (q5 _ (by omega)) (q6 _ (by omega)) (q7 _ (by omega)) rfl e7 rfl (by omega) (by omega) (by omega) (by omega) (by omega) e6 (by omega)
 · obtain ⟨v, e⟩ := res
   obtain ⟨K3, q3⟩ := of_bad he h1
   obtain ⟨K4, q4⟩ := genus_bad he h1
   obtain ⟨K5, q5⟩ := flat_bad he h1
   exact euler_bad (K1 + K2 + K3 + K4 + K5) a0_0 A0_1 c0_1 l0_1 A1 c1 l1 w hr0_1 hc0_1 hr1 hc1 (q1 _ (by omega)) (q2 _ (by omega)) (q3 _ (by omega)) (q4 _ (by omega)) (q5 _ (by omega)) he rfl rfl
end Go.Proofs.Ytmikcfddipldnaa.Rot
