/- DERIVED. Texts of this seat, one behind the other: lemmas and walks that the statement CanonCodes needs. No condition. -/
import Derived.Test.YteeihjpnhjnknaaCCanonCodesc
import Derived.Test.YteeihjpnhjnknaaCCanonCodesa
import Derived.SizedLaws
import Derived.ChangeSlices
import Derived.ProofKit
import Derived.OpenShut
import Derived.ChangeOld
import Derived.Deep.Slices
-- Written by a program of this session (wip/tools/printx.py) over the kit's printer and texts of its own; it is no print of print.sh.





namespace Go.Proofs.Yteeihjpnhjnknaa.GAll
open Go.RowKit Go.Proofs.YteeihjpnhjnknaaW.PrintWords Go.Proofs.YteeihjpnhjnknaaW.PrintLast Go.Proofs.YteeihjpnhjnknaaW.PrintMore
attribute [local go_sem] max2_int min2_int max_two min_two max_three min_three max_four min_four   -- for this text's walks alone
set_option linter.unusedVariables false
set_option linter.unusedSimpArgs false

/-! ### the document's Seen: told by hand -/
def tangramref21_Seen.fit (n : Int) (l : List S89) (root : Int) (nx : List Int) : Bool :=
  decide (0 ≤ n ∧ 0 ≤ root ∧ root < (nx.length : Int) ∧ l.length ≤ 4194304) && (Seen.fit n.toNat nx (Graph.tosL (l.map fun x => (x.f0, x.f1))) && ((l.all fun x => decide (x.f0 ≠ x.f1)) &&
    (List.range nx.length).all fun h => decide (Graph.cntF (Rot.froms (l.map fun x => (x.f0, x.f1))) (2 * l.length) (Mem.gi (Graph.tosL (l.map fun x => (x.f0, x.f1))) (Seen.tw (h : Nat)).toNat) = Seen.per nx (h : Nat))))
def tangramref21_Seen.f (k : Nat) (a0_0 : Int) (l0_1 : List S89) (l1 : List (List Int)) (a2 : Int) : Option (List Int × List Int) := (tangramref11_Next.f k a0_0 l0_1 l1).bind fun t =>
  if tangramref21_Seen.fit a0_0 l0_1 a2 t.1 = true then some ((Seen.all a0_0.toNat t.1 (Graph.tosL (l0_1.map fun x => (x.f0, x.f1))) a2).cd, (Seen.all a0_0.toNat t.1 (Graph.tosL (l0_1.map fun x => (x.f0, x.f1))) a2).num) else none
theorem tangramref21_Seen.mono : ∀ a0 a1 a2 a3 k, LeO (tangramref21_Seen.f k a0 a1 a2 a3) (tangramref21_Seen.f (k + 1) a0 a1 a2 a3) := by
  intro a0 a1 a2 a3 k
  unfold tangramref21_Seen.f
  exact LeO.bind (tangramref11_Next.mono _ _ _ _) (fun _ => LeO.refl _)
theorem tangramref21_Seen.calls (k : Nat) (a0_0 : Int) (A0_1 : Option Addr) (c0_1 : Nat) (l0_1 : List (S89)) (A1 : Option Addr) (c1 : Nat) (l1 : List (List Int)) (a2 : Int) (r1 : List Int) (r2 : List Int) (w : World) (hr0_1 : Kd.C k89 w A0_1 l0_1.length l0_1) (hc0_1 : l0_1.length ≤ c0_1) (hr1 : Kd.C (Kd.slice 3 (Kd.int .i64)) w A1 l1.length l1) (hc1 : l1.length ≤ c1) (h : tangramref21_Seen.f k a0_0 l0_1 l1 a2 = some (r1, r2)) :
    Calls Try.prog 38 #[.agg #[.int .i64 a0_0, .slice A0_1 l0_1.length c0_1], .slice A1 l1.length c1, .int .i64 a2] w fun e w' => ∃ v0_ v1_ : Value, e = .returned (.tuple #[v0_, v1_]) ∧ Kd.R (Kd.int .i64) 3 w' w.heap.size (fun k_ => some k_ ≠ (v1_ : Value).ownBlock) v0_ r1 ∧ Kd.R (Kd.int .i64) 3 w' w.heap.size (fun k_ => some k_ ≠ (v0_ : Value).ownBlock) v1_ r2 ∧ Below w.heap.size w w' := by
  obtain ⟨⟨nx, e0⟩, ht, h⟩ := Option.bind_eq_some_iff.mp h
  by_cases hf : tangramref21_Seen.fit a0_0 l0_1 a2 nx = true
  · simp only at h
    rw [if_pos hf] at h
    unfold tangramref21_Seen.fit at hf
    rw [Bool.and_eq_true, Bool.and_eq_true, Bool.and_eq_true, decide_eq_true_eq, List.all_eq_true, List.all_eq_true] at hf
    obtain ⟨⟨g1, g2, g3, g4⟩, g5, g6, g7⟩ := hf
    obtain ⟨n, rfl⟩ := Int.eq_ofNat_of_zero_le g1
    obtain ⟨root, rfl⟩ := Int.eq_ofNat_of_zero_le g2
    rw [Int.toNat_natCast] at h g5
    have hp := tangramref11_Check.pairs hr0_1
    have hlm : (l0_1.map fun x => (x.f0, x.f1)).length = l0_1.length := List.length_map ..
    have hne : ∀ i, i < (l0_1.map fun x => (x.f0, x.f1)).length → (Mem.pe (l0_1.map fun x => (x.f0, x.f1)) i).1 ≠ (Mem.pe (l0_1.map fun x => (x.f0, x.f1)) i).2 := by
      intro i hi
      rw [List.length_map] at hi
      have e : Mem.pe (l0_1.map fun x => (x.f0, x.f1)) i = (l0_1[i].f0, l0_1[i].f1) := by unfold Mem.pe; simp [List.getD_eq_getElem?_getD, hi]
      rw [e]
      exact of_decide_eq_true (g6 _ (List.getElem_mem hi))
    have hnext : ∀ W : World, Below w.heap.size w W → _ := fun W hW => tangramref11_Next.calls k n A0_1 c0_1 l0_1 A1 c1 l1 nx e0 W (Kd.C_below hr0_1 hW) hc0_1 (Kd.C_below hr1 hW) hc1 ht
    have hd : ∀ h, h < nx.length → Graph.cntF (Rot.froms (l0_1.map fun x => (x.f0, x.f1))) (2 * (l0_1.map fun x => (x.f0, x.f1)).length) (Mem.gi (Graph.tosL (l0_1.map fun x => (x.f0, x.f1))) (Seen.tw (h : Nat)).toNat) = Seen.per nx (h : Nat) := fun h hh => by
      rw [hlm]; exact of_decide_eq_true (g7 h (List.mem_range.2 hh))
    obtain ⟨rfl, rfl⟩ : (Seen.all n nx (Graph.tosL (l0_1.map fun x => (x.f0, x.f1))) (root : Int)).cd = r1 ∧ (Seen.all n nx (Graph.tosL (l0_1.map fun x => (x.f0, x.f1))) (root : Int)).num = r2 := by simpa using h
    have key := Seen.seen_graph n A0_1 c0_1 (l0_1.map fun x => (x.f0, x.f1)) A1 l1.length c1 nx e0 root w hp (by omega) hne (Seen.fit_iff.1 g5) hd (by omega) (by rw [hlm]; exact hnext)
    rw [hlm] at key
    exact key
  · simp only at h
    rw [if_neg hf] at h; cases h

/-! ### tangramref21_Best: function 40 -/
def tangramref21_Best.l0 : Nat → List (List Int) → List Int → Int → Int → Int → Int → List (S89) → Option (List Int × Int × Int)
  | 0, _, _, _, _, _, _, _ => none
  | k + 1, x1, x7, x9, x10, x11, x182000, x182001 => if x11 < (wrap64 (2 * (x182001.length : Int))) then ((tangramref21_Seen.f k x182000 x182001 x1 x11).bind fun bt188 => ((tangramref03_SameInts.f k bt188.1 x7).bind fun t194 => ((tangramref21_Less.f k bt188.1 x7).bind fun t195 => (if t194 = true then (if t195 = true then (tangramref21_Best.l0 k x1 bt188.1 x11 1 (wrap64 (x11 + 1)) x182000 x182001) else (tangramref21_Best.l0 k x1 x7 x9 (wrap64 (x10 + 1)) (wrap64 (x11 + 1)) x182000 x182001)) else (if t195 = true then (tangramref21_Best.l0 k x1 bt188.1 x11 1 (wrap64 (x11 + 1)) x182000 x182001) else (tangramref21_Best.l0 k x1 x7 x9 x10 (wrap64 (x11 + 1)) x182000 x182001)))))) else (some (x7, x9, x10))
def tangramref21_Best.f (k : Nat) (a0_0 : Int) (l0_1 : List (S89)) (l1 : List (List Int)) : Option (List Int × Int × Int) := (tangramref21_Seen.f k a0_0 l0_1 l1 0).bind fun bt182 => (tangramref21_Best.l0 k l1 bt182.1 0 1 1 a0_0 l0_1)
theorem tangramref21_Best.mono_l : ∀ k, (∀ y0 y1 y2 y3 y4 y5 y6, LeO (tangramref21_Best.l0 k y0 y1 y2 y3 y4 y5 y6) (tangramref21_Best.l0 (k + 1) y0 y1 y2 y3 y4 y5 y6))
  | 0 => fun _ _ _ _ _ _ _ r h => by simp [tangramref21_Best.l0] at h
  | k + 1 => by
    have ih0 := tangramref21_Best.mono_l k
    · intro y0 y1 y2 y3 y4 y5 y6
      unfold tangramref21_Best.l0
      repeat' first
      | (with_reducible exact ih0 _ _ _ _ _ _ _)
      | (with_reducible exact tangramref03_SameInts.mono _ _ _)
      | (with_reducible exact tangramref21_Less.mono _ _ _)
      | (with_reducible exact tangramref21_Seen.mono _ _ _ _ _)
      | (with_reducible exact LeO.refl _)
      | (with_reducible exact LeO.none _)
      | (with_reducible refine LeO.ite ?_ ?_)
      | (with_reducible refine LeO.bind ?_ (fun _ => ?_))
      | exact ih0 _ _ _ _ _ _ _
      | exact tangramref03_SameInts.mono _ _ _
      | exact tangramref21_Less.mono _ _ _
      | exact tangramref21_Seen.mono _ _ _ _ _
      | exact LeO.none _
      | refine LeO.ite ?_ ?_
      | refine LeO.bind ?_ (fun _ => ?_)
theorem tangramref21_Best.mono : ∀ a0 a1 a2 k, LeO (tangramref21_Best.f k a0 a1 a2) (tangramref21_Best.f (k + 1) a0 a1 a2) := by
  intro a0 a1 a2 k
  have ih0 := tangramref21_Best.mono_l k
  unfold tangramref21_Best.f
  repeat' first
      | (with_reducible exact ih0 _ _ _ _ _ _ _)
      | (with_reducible exact tangramref03_SameInts.mono _ _ _)
      | (with_reducible exact tangramref21_Less.mono _ _ _)
      | (with_reducible exact tangramref21_Seen.mono _ _ _ _ _)
      | (with_reducible exact LeO.refl _)
      | (with_reducible exact LeO.none _)
      | (with_reducible refine LeO.ite ?_ ?_)
      | (with_reducible refine LeO.bind ?_ (fun _ => ?_))
      | exact ih0 _ _ _ _ _ _ _
      | exact tangramref03_SameInts.mono _ _ _
      | exact tangramref21_Less.mono _ _ _
      | exact tangramref21_Seen.mono _ _ _ _ _
      | exact LeO.none _
      | refine LeO.ite ?_ ?_
      | refine LeO.bind ?_ (fun _ => ?_)
set_option maxHeartbeats 8000000 in
set_option maxRecDepth 100000 in
theorem tangramref21_Best.calls (k : Nat) (a0_0 : Int) (A0_1 : Option Addr) (c0_1 : Nat) (l0_1 : List (S89)) (A1 : Option Addr) (c1 : Nat) (l1 : List (List Int)) (r1 : List Int) (r2 : Int) (r3 : Int) (w : World) (hr0_1 : Kd.C k89 w A0_1 l0_1.length l0_1) (hc0_1 : l0_1.length ≤ c0_1) (hr1 : Kd.C (Kd.slice 3 (Kd.int .i64)) w A1 l1.length l1) (hc1 : l1.length ≤ c1) (h : tangramref21_Best.f k a0_0 l0_1 l1 = some (r1, r2, r3)) :
    Calls Try.prog 40 #[.agg #[.int .i64 a0_0, .slice A0_1 l0_1.length c0_1], .slice A1 l1.length c1] w fun e w' => ∃ v0_ : Value, e = .returned (.tuple #[v0_, .int .i64 r2, .int .i64 r3]) ∧ Kd.R (Kd.int .i64) 3 w' w.heap.size (fun _ => True) v0_ r1 ∧ Below w.heap.size w w' := by
  have hu24 := Try.underlying24
  have HR0_1 := Aside0.mk hr0_1
  have HC0_1 := Aside0.mk hc0_1
  clear hr0_1 hc0_1
  have HR1 := Aside0.mk hr1
  have HC1 := Aside0.mk hc1
  clear hr1 hc1
  have HB := Aside0.mk (Below.refl w.heap.size w)
  have H : ((tangramref21_Seen.f k a0_0 l0_1 l1 0).bind fun bt182 => (tangramref21_Best.l0 k l1 bt182.1 0 1 1 a0_0 l0_1)) = some (r1, r2, r3) := h
  clear h
  replace H := Option.bind_eq_some_iff.mp H
  obtain ⟨⟨t182, t185⟩, A30, H⟩ := H
  replace H : (tangramref21_Best.l0 k l1 t182 0 1 1 a0_0 l0_1) = some (r1, r2, r3) := H
  have A3 := Aside0.mk A30
  clear A30
  have H' := Aside0.mk H
  clear H
  go_enter Try.func40, Try.ntmps40
  go_wp2_with (first | ((with_reducible refine gate_dst (N := 2) rfl ?_); refine box_event ?hg (N := 2) ?hd (cs := #[.int .i64 a0_0, .slice A0_1 l0_1.length c0_1]) (t := 24) ?hr ?_; (case hd => rfl); (case hg => rfl); (case hr => first | (go_simp; done) | (go_simp; rfl)); intro gb181 hg w4 hbox hb; have n0_ := Aside0.mk (below_step (by repeat (first | (with_reducible first | exact HB.out | apply below_alloc | apply pw_below_drewN | apply below_drew1) | exact HB.out)) hb); have n1_ := Aside0.mk (hbox); have n2_ := Aside0.mk ((by rw [hg]; exact (below_size (by repeat (first | (with_reducible first | exact HB.out | apply below_alloc | apply pw_below_drewN | apply below_drew1) | exact HB.out))) : w.heap.size ≤ gb181)); have n3_ := Aside0.mk ((by rw [hg]; exact (below_size (by repeat (first | (with_reducible first | exact HB.out | apply below_alloc | apply pw_below_drewN | apply below_drew1) | exact HB.out))) : w.heap.size ≤ gb181)); clear HB; have HB := n0_; have BK181 := n1_; have GW181 := n2_; have GE181 := n3_; clear n0_ n1_ n2_ n3_; clear hb hbox hg; have hcz5_0 : w4.cell? ⟨gb181, 0, none⟩ = some (.int .i64 a0_0) := (blk_cell BK181.out 0).trans rfl; have hcz5_1 : w4.cell? ⟨gb181, 1, none⟩ = some (.slice A0_1 l0_1.length c0_1) := (blk_cell BK181.out 1).trans rfl; have hfz5_0 := blk_frozen BK181.out 0; have hfz5_1 := blk_frozen BK181.out 1) | ((with_reducible refine gate_callee (f := 38) rfl ?_); refine goesL_ (some 19) rfl rfl Try.func38 (by kernel_rfl) rfl #[.agg #[.int .i64 a0_0, .slice A0_1 l0_1.length c0_1], .slice A1 l1.length c1, .int .i64 0] rfl (by (try simp only [List.map_toArray, List.map_cons, List.map_nil]); first | done | rfl | (simp only [List.length_drop, List.length_take]; rfl)) ?_; (with_reducible refine (tangramref21_Seen.calls k a0_0 _ _ l0_1 _ _ l1 0 t182 t185 _ ?side1 ?side2 ?side3 ?side4 A3.out).mono ?_); (case side1 => repeat (first | exact (Kd.C_below HR0_1.out HB.out) | (with_reducible refine Kd.C_alloc ?_ _) | (with_reducible refine Kd.C_drewN ?_ _) | (with_reducible refine Kd.C_drew ?_))); (case side2 => exact HC0_1.out); (case side3 => repeat (first | exact (Kd.C_below HR1.out HB.out) | (with_reducible refine Kd.C_alloc ?_ _) | (with_reducible refine Kd.C_drewN ?_ _) | (with_reducible refine Kd.C_drew ?_))); (case side4 => exact HC1.out); rintro e w6 ⟨v183, v186, rfl, ho0, ho1, hb⟩; refine ⟨_, rfl, ?_⟩; have n0_ := Aside0.mk (Kd.R_lower ho0 (below_size (by repeat (first | (with_reducible first | exact HB.out | apply below_alloc | apply pw_below_drewN | apply below_drew1 | refine below_set ?_ GE181.out) | exact HB.out)))); have n1_ := Aside0.mk (Kd.R_lower ho1 (below_size (by repeat (first | (with_reducible first | exact HB.out | apply below_alloc | apply pw_below_drewN | apply below_drew1 | refine below_set ?_ GE181.out) | exact HB.out)))); have n2_ := Aside0.mk (blk_below (g := gb181) (o := .cells #[.int .i64 a0_0, .slice A0_1 l0_1.length c0_1] 24 (0, 0)) (by (with_reducible repeat (first | refine blk_drewN ?_ _ | refine blk_drew ?_ | refine blk_alloc ?_ _)); exact BK181.out) hb); have n3_ := Aside0.mk (below_step (by repeat (first | (with_reducible first | exact HB.out | apply below_alloc | apply pw_below_drewN | apply below_drew1 | refine below_set ?_ GE181.out) | exact HB.out)) hb); clear BK181; clear HB; have HO184 := n0_; have HO187 := n1_; have BK181 := n2_; have HB := n3_; clear n0_ n1_ n2_ n3_; (try clear hb); (try clear hb2); (try clear hk); (try clear hi); (try clear ho0); (try clear ho1)))
  go_loopg [7, 9, 10, 11] k (fun kq v7 v9 v10 v11 w' => ∃ (x7_1 : List Int) (x9_1 : Int) (x10_1 : Int) (x11_1 : Int), v9 = .int .i64 x9_1 ∧ v10 = .int .i64 x10_1 ∧ v11 = .int .i64 x11_1 ∧ Aside0 (tangramref21_Best.l0 kq l1 x7_1 x9_1 x10_1 x11_1 a0_0 l0_1 = some (r1, r2, r3)) ∧ Aside0 (kq ≤ k) ∧ Aside0 (Kd.R (Kd.int .i64) 3 w' w.heap.size (fun _ => True) v7 x7_1) ∧ Aside0 (w'.heap[gb181]? = some (.cells #[.int .i64 a0_0, (.slice A0_1 l0_1.length c0_1)] 24 (0, 0))) ∧ Aside0 (Below w.heap.size w w'))
  case atStart => exact ⟨(t182), (0), (1), (1), (by first | rfl | (simp; done) | (simp [*]; done)), (by first | rfl | (simp; done) | (simp [*]; done)), (by first | rfl | (simp; done) | (simp [*]; done)), H', ⟨Nat.le_refl _⟩, ⟨by (with_reducible repeat (first | apply Kd.R_alloc | apply Kd.R_drewN | apply Kd.R_drew)); exact Kd.R_mono HO184.out (fun _ hk => trivial)⟩, ⟨by (with_reducible repeat (first | refine blk_drewN ?_ _ | refine blk_drew ?_ | refine blk_alloc ?_ _)); exact BK181.out⟩, ⟨by repeat (first | (with_reducible first | exact HB.out | apply below_alloc | apply pw_below_drewN | apply below_drew1 | refine below_set ?_ GE181.out) | exact HB.out)⟩⟩
  case round =>
    clear H'
    try clear c1
    try clear p2
    try clear c3
    try clear c4
    try clear hcz5_0
    try clear hcz5_1
    try clear hfz5_0
    try clear hfz5_1
    obtain ⟨x7_1, x9_1, x10_1, x11_1, rfl, rfl, rfl, HA, HK1, HO_7, BK181, HB⟩ := hrel
    cases gk with
    | zero => exact absurd HA.out (by simp [tangramref21_Best.l0])
    | succ k1 =>
      have H := HA.out
      clear HA
      simp only [tangramref21_Best.l0] at H
      by_cases c7 : x11_1 < (wrap64 (2 * (l0_1.length : Int)))
      · rw [if_pos c7] at H
        have c7b0 : decide (x11_1 < (wrap64 (2 * (l0_1.length : Int)))) = true := decide_eq_true c7
        clear c7
        replace H := Option.bind_eq_some_iff.mp H
        obtain ⟨⟨t188, t191⟩, A80, H⟩ := H
        replace H : ((tangramref03_SameInts.f k1 t188 x7_1).bind fun t194 => ((tangramref21_Less.f k1 t188 x7_1).bind fun t195 => (if t194 = true then (if t195 = true then (tangramref21_Best.l0 k1 l1 t188 x11_1 1 (wrap64 (x11_1 + 1)) a0_0 l0_1) else (tangramref21_Best.l0 k1 l1 x7_1 x9_1 (wrap64 (x10_1 + 1)) (wrap64 (x11_1 + 1)) a0_0 l0_1)) else (if t195 = true then (tangramref21_Best.l0 k1 l1 t188 x11_1 1 (wrap64 (x11_1 + 1)) a0_0 l0_1) else (tangramref21_Best.l0 k1 l1 x7_1 x9_1 x10_1 (wrap64 (x11_1 + 1)) a0_0 l0_1))))) = some (r1, r2, r3) := H
        have A8 := Aside0.mk A80
        clear A80
        replace H := Option.bind_eq_some_iff.mp H
        obtain ⟨t194, A90, H⟩ := H
        replace H : ((tangramref21_Less.f k1 t188 x7_1).bind fun t195 => (if t194 = true then (if t195 = true then (tangramref21_Best.l0 k1 l1 t188 x11_1 1 (wrap64 (x11_1 + 1)) a0_0 l0_1) else (tangramref21_Best.l0 k1 l1 x7_1 x9_1 (wrap64 (x10_1 + 1)) (wrap64 (x11_1 + 1)) a0_0 l0_1)) else (if t195 = true then (tangramref21_Best.l0 k1 l1 t188 x11_1 1 (wrap64 (x11_1 + 1)) a0_0 l0_1) else (tangramref21_Best.l0 k1 l1 x7_1 x9_1 x10_1 (wrap64 (x11_1 + 1)) a0_0 l0_1)))) = some (r1, r2, r3) := H
        have A9 := Aside0.mk A90
        clear A90
        replace H := Option.bind_eq_some_iff.mp H
        obtain ⟨t195, A100, H⟩ := H
        replace H : (if t194 = true then (if t195 = true then (tangramref21_Best.l0 k1 l1 t188 x11_1 1 (wrap64 (x11_1 + 1)) a0_0 l0_1) else (tangramref21_Best.l0 k1 l1 x7_1 x9_1 (wrap64 (x10_1 + 1)) (wrap64 (x11_1 + 1)) a0_0 l0_1)) else (if t195 = true then (tangramref21_Best.l0 k1 l1 t188 x11_1 1 (wrap64 (x11_1 + 1)) a0_0 l0_1) else (tangramref21_Best.l0 k1 l1 x7_1 x9_1 x10_1 (wrap64 (x11_1 + 1)) a0_0 l0_1))) = some (r1, r2, r3) := H
        have A10 := Aside0.mk A100
        clear A100
        by_cases c11 : t194 = true
        · subst c11
          have H1 : (if t195 = true then (tangramref21_Best.l0 k1 l1 t188 x11_1 1 (wrap64 (x11_1 + 1)) a0_0 l0_1) else (tangramref21_Best.l0 k1 l1 x7_1 x9_1 (wrap64 (x10_1 + 1)) (wrap64 (x11_1 + 1)) a0_0 l0_1)) = some (r1, r2, r3) := by rw [if_pos rfl] at H; exact H
          clear H
          have H := H1
          clear H1
          by_cases c12 : t195 = true
          · subst c12
            have H1 : (tangramref21_Best.l0 k1 l1 t188 x11_1 1 (wrap64 (x11_1 + 1)) a0_0 l0_1) = some (r1, r2, r3) := by rw [if_pos rfl] at H; exact H
            clear H
            have H := H1
            clear H1
            have H' := Aside0.mk H
            clear H
            have hcz13_0 : wr.cell? ⟨gb181, 0, none⟩ = some (.int .i64 a0_0) := (blk_cell BK181.out 0).trans rfl
            have hcz13_1 : wr.cell? ⟨gb181, 1, none⟩ = some (.slice A0_1 l0_1.length c0_1) := (blk_cell BK181.out 1).trans rfl
            have hfz13_0 := blk_frozen BK181.out 0
            have hfz13_1 := blk_frozen BK181.out 1
            go_wp2_with (first | ((with_reducible refine gate_callee (f := 38) rfl ?_); refine goesL_ (some 34) rfl rfl Try.func38 (by kernel_rfl) rfl #[.agg #[.int .i64 a0_0, .slice A0_1 l0_1.length c0_1], .slice A1 l1.length c1, .int .i64 x11_1] rfl (by (try simp only [List.map_toArray, List.map_cons, List.map_nil]); first | done | rfl | (simp only [List.length_drop, List.length_take]; rfl)) ?_; (with_reducible refine (tangramref21_Seen.calls k1 a0_0 _ _ l0_1 _ _ l1 x11_1 t188 t191 _ ?side1 ?side2 ?side3 ?side4 A8.out).mono ?_); (case side1 => repeat (first | exact (Kd.C_below HR0_1.out HB.out) | (with_reducible refine Kd.C_alloc ?_ _) | (with_reducible refine Kd.C_drewN ?_ _) | (with_reducible refine Kd.C_drew ?_))); (case side2 => exact HC0_1.out); (case side3 => repeat (first | exact (Kd.C_below HR1.out HB.out) | (with_reducible refine Kd.C_alloc ?_ _) | (with_reducible refine Kd.C_drewN ?_ _) | (with_reducible refine Kd.C_drew ?_))); (case side4 => exact HC1.out); rintro e w14 ⟨v189, v192, rfl, ho0, ho1, hb⟩; refine ⟨_, rfl, ?_⟩; have n0_ := Aside0.mk (Kd.R_mono (Kd.R_told (Kd.R_told (Kd.R_old (by (with_reducible repeat (first | apply Kd.R_alloc | apply Kd.R_drewN | apply Kd.R_drew)); exact HO_7.out) hb) (Kd.R_base ho0)) (Kd.R_base ho1)) (fun _ h_ => h_.1)); have n1_ := Aside0.mk (Kd.R_lower (Kd.R_new' ho0 (Kd.R_lt (by (with_reducible repeat (first | apply Kd.R_alloc | apply Kd.R_drewN | apply Kd.R_drew)); exact HO_7.out))) (below_size (by repeat (first | (with_reducible first | exact HB.out | apply below_alloc | apply pw_below_drewN | apply below_drew1 | refine below_set ?_ GE181.out) | exact HB.out)))); have n2_ := Aside0.mk (Kd.R_lower (Kd.R_new' ho1 (Kd.R_lt (by (with_reducible repeat (first | apply Kd.R_alloc | apply Kd.R_drewN | apply Kd.R_drew)); exact HO_7.out))) (below_size (by repeat (first | (with_reducible first | exact HB.out | apply below_alloc | apply pw_below_drewN | apply below_drew1 | refine below_set ?_ GE181.out) | exact HB.out)))); have n3_ := Aside0.mk (blk_below (g := gb181) (o := .cells #[.int .i64 a0_0, .slice A0_1 l0_1.length c0_1] 24 (0, 0)) (by (with_reducible repeat (first | refine blk_drewN ?_ _ | refine blk_drew ?_ | refine blk_alloc ?_ _)); exact BK181.out) hb); have n4_ := Aside0.mk (below_step (by repeat (first | (with_reducible first | exact HB.out | apply below_alloc | apply pw_below_drewN | apply below_drew1 | refine below_set ?_ GE181.out) | exact HB.out)) hb); clear HO_7; clear BK181; clear HB; have HO_7 := n0_; have HO190 := n1_; have HO193 := n2_; have BK181 := n3_; have HB := n4_; clear n0_ n1_ n2_ n3_ n4_; (try clear hb); (try clear hb2); (try clear hk); (try clear hi); (try clear ho0); (try clear ho1); obtain ⟨Ao15, co15, eo15⟩ := Kd.R_slice HO190.out; subst eo15; obtain ⟨Ao16, co16, eo16⟩ := Kd.R_slice HO_7.out; subst eo16) | ((with_reducible refine gate_callee (f := 15) rfl ?_); refine goesL_ (some 39) rfl rfl Try.func15 (by kernel_rfl) rfl #[.slice Ao15 t188.length co15, .slice Ao16 x7_1.length co16] rfl (by (try simp only [List.map_toArray, List.map_cons, List.map_nil]); first | done | rfl | (simp only [List.length_drop, List.length_take]; rfl)) ?_; (with_reducible refine (tangramref03_SameInts.calls k1 _ _ t188 _ _ x7_1 true _ ?side1 ?side2 ?side3 ?side4 A9.out).mono ?_); (case side1 => repeat (first | exact (Kd.R_reads' HO190.out).2.2 | (with_reducible refine Kd.C_alloc ?_ _) | (with_reducible refine Kd.C_drewN ?_ _) | (with_reducible refine Kd.C_drew ?_))); (case side2 => exact (Kd.R_reads' HO190.out).2.1); (case side3 => repeat (first | exact (Kd.R_reads' HO_7.out).2.2 | (with_reducible refine Kd.C_alloc ?_ _) | (with_reducible refine Kd.C_drewN ?_ _) | (with_reducible refine Kd.C_drew ?_))); (case side4 => exact (Kd.R_reads' HO_7.out).2.1); rintro e w' ⟨rfl, ⟨nd, rfl⟩⟩; refine ⟨_, rfl, ?_⟩) | ((with_reducible refine gate_callee (f := 22) rfl ?_); refine goesL_ (some 42) rfl rfl Try.func22 (by kernel_rfl) rfl #[.slice Ao15 t188.length co15, .slice Ao16 x7_1.length co16] rfl (by (try simp only [List.map_toArray, List.map_cons, List.map_nil]); first | done | rfl | (simp only [List.length_drop, List.length_take]; rfl)) ?_; (with_reducible refine (tangramref21_Less.calls k1 _ _ t188 _ _ x7_1 true _ ?side1 ?side2 ?side3 ?side4 A10.out).mono ?_); (case side1 => repeat (first | exact (Kd.R_reads' HO190.out).2.2 | (with_reducible refine Kd.C_alloc ?_ _) | (with_reducible refine Kd.C_drewN ?_ _) | (with_reducible refine Kd.C_drew ?_))); (case side2 => exact (Kd.R_reads' HO190.out).2.1); (case side3 => repeat (first | exact (Kd.R_reads' HO_7.out).2.2 | (with_reducible refine Kd.C_alloc ?_ _) | (with_reducible refine Kd.C_drewN ?_ _) | (with_reducible refine Kd.C_drew ?_))); (case side4 => exact (Kd.R_reads' HO_7.out).2.1); rintro e w' ⟨rfl, ⟨nd, rfl⟩⟩; refine ⟨_, rfl, ?_⟩))
            go_roundg k1
            case measure => have := HK1.out; omega
            case rel => exact ⟨(t188), (x11_1), (1), (wrap64 (x11_1 + 1)), (by first | rfl | (simp; done) | (simp [*]; done)), (by first | rfl | (simp; done) | (simp [*]; done)), (by first | rfl | (simp; done) | (simp [*]; done)), H', ⟨by have := HK1.out; omega⟩, ⟨by (with_reducible repeat (first | apply Kd.R_alloc | apply Kd.R_drewN | apply Kd.R_drew)); exact Kd.R_mono HO190.out (fun _ hk => trivial)⟩, ⟨by (with_reducible repeat (first | refine blk_drewN ?_ _ | refine blk_drew ?_ | refine blk_alloc ?_ _)); exact BK181.out⟩, ⟨by repeat (first | (with_reducible first | exact HB.out | apply below_alloc | apply pw_below_drewN | apply below_drew1 | refine below_set ?_ GE181.out) | exact HB.out)⟩⟩
          · replace c12 := Bool.eq_false_iff.mpr c12
            subst c12
            have H1 : (tangramref21_Best.l0 k1 l1 x7_1 x9_1 (wrap64 (x10_1 + 1)) (wrap64 (x11_1 + 1)) a0_0 l0_1) = some (r1, r2, r3) := by rw [if_neg (show ¬ (false = true) by decide)] at H; exact H
            clear H
            have H := H1
            clear H1
            have H' := Aside0.mk H
            clear H
            have hcz17_0 : wr.cell? ⟨gb181, 0, none⟩ = some (.int .i64 a0_0) := (blk_cell BK181.out 0).trans rfl
            have hcz17_1 : wr.cell? ⟨gb181, 1, none⟩ = some (.slice A0_1 l0_1.length c0_1) := (blk_cell BK181.out 1).trans rfl
            have hfz17_0 := blk_frozen BK181.out 0
            have hfz17_1 := blk_frozen BK181.out 1
            go_wp2_with (first | ((with_reducible refine gate_callee (f := 38) rfl ?_); refine goesL_ (some 34) rfl rfl Try.func38 (by kernel_rfl) rfl #[.agg #[.int .i64 a0_0, .slice A0_1 l0_1.length c0_1], .slice A1 l1.length c1, .int .i64 x11_1] rfl (by (try simp only [List.map_toArray, List.map_cons, List.map_nil]); first | done | rfl | (simp only [List.length_drop, List.length_take]; rfl)) ?_; (with_reducible refine (tangramref21_Seen.calls k1 a0_0 _ _ l0_1 _ _ l1 x11_1 t188 t191 _ ?side1 ?side2 ?side3 ?side4 A8.out).mono ?_); (case side1 => repeat (first | exact (Kd.C_below HR0_1.out HB.out) | (with_reducible refine Kd.C_alloc ?_ _) | (with_reducible refine Kd.C_drewN ?_ _) | (with_reducible refine Kd.C_drew ?_))); (case side2 => exact HC0_1.out); (case side3 => repeat (first | exact (Kd.C_below HR1.out HB.out) | (with_reducible refine Kd.C_alloc ?_ _) | (with_reducible refine Kd.C_drewN ?_ _) | (with_reducible refine Kd.C_drew ?_))); (case side4 => exact HC1.out); rintro e w18 ⟨v189, v192, rfl, ho0, ho1, hb⟩; refine ⟨_, rfl, ?_⟩; have n0_ := Aside0.mk (Kd.R_mono (Kd.R_told (Kd.R_told (Kd.R_old (by (with_reducible repeat (first | apply Kd.R_alloc | apply Kd.R_drewN | apply Kd.R_drew)); exact HO_7.out) hb) (Kd.R_base ho0)) (Kd.R_base ho1)) (fun _ h_ => h_.1)); have n1_ := Aside0.mk (Kd.R_lower (Kd.R_new' ho0 (Kd.R_lt (by (with_reducible repeat (first | apply Kd.R_alloc | apply Kd.R_drewN | apply Kd.R_drew)); exact HO_7.out))) (below_size (by repeat (first | (with_reducible first | exact HB.out | apply below_alloc | apply pw_below_drewN | apply below_drew1 | refine below_set ?_ GE181.out) | exact HB.out)))); have n2_ := Aside0.mk (Kd.R_lower (Kd.R_new' ho1 (Kd.R_lt (by (with_reducible repeat (first | apply Kd.R_alloc | apply Kd.R_drewN | apply Kd.R_drew)); exact HO_7.out))) (below_size (by repeat (first | (with_reducible first | exact HB.out | apply below_alloc | apply pw_below_drewN | apply below_drew1 | refine below_set ?_ GE181.out) | exact HB.out)))); have n3_ := Aside0.mk (blk_below (g := gb181) (o := .cells #[.int .i64 a0_0, .slice A0_1 l0_1.length c0_1] 24 (0, 0)) (by (with_reducible repeat (first | refine blk_drewN ?_ _ | refine blk_drew ?_ | refine blk_alloc ?_ _)); exact BK181.out) hb); have n4_ := Aside0.mk (below_step (by repeat (first | (with_reducible first | exact HB.out | apply below_alloc | apply pw_below_drewN | apply below_drew1 | refine below_set ?_ GE181.out) | exact HB.out)) hb); clear HO_7; clear BK181; clear HB; have HO_7 := n0_; have HO190 := n1_; have HO193 := n2_; have BK181 := n3_; have HB := n4_; clear n0_ n1_ n2_ n3_ n4_; (try clear hb); (try clear hb2); (try clear hk); (try clear hi); (try clear ho0); (try clear ho1); obtain ⟨Ao19, co19, eo19⟩ := Kd.R_slice HO190.out; subst eo19; obtain ⟨Ao20, co20, eo20⟩ := Kd.R_slice HO_7.out; subst eo20) | ((with_reducible refine gate_callee (f := 15) rfl ?_); refine goesL_ (some 39) rfl rfl Try.func15 (by kernel_rfl) rfl #[.slice Ao19 t188.length co19, .slice Ao20 x7_1.length co20] rfl (by (try simp only [List.map_toArray, List.map_cons, List.map_nil]); first | done | rfl | (simp only [List.length_drop, List.length_take]; rfl)) ?_; (with_reducible refine (tangramref03_SameInts.calls k1 _ _ t188 _ _ x7_1 true _ ?side1 ?side2 ?side3 ?side4 A9.out).mono ?_); (case side1 => repeat (first | exact (Kd.R_reads' HO190.out).2.2 | (with_reducible refine Kd.C_alloc ?_ _) | (with_reducible refine Kd.C_drewN ?_ _) | (with_reducible refine Kd.C_drew ?_))); (case side2 => exact (Kd.R_reads' HO190.out).2.1); (case side3 => repeat (first | exact (Kd.R_reads' HO_7.out).2.2 | (with_reducible refine Kd.C_alloc ?_ _) | (with_reducible refine Kd.C_drewN ?_ _) | (with_reducible refine Kd.C_drew ?_))); (case side4 => exact (Kd.R_reads' HO_7.out).2.1); rintro e w' ⟨rfl, ⟨nd, rfl⟩⟩; refine ⟨_, rfl, ?_⟩) | ((with_reducible refine gate_callee (f := 22) rfl ?_); refine goesL_ (some 42) rfl rfl Try.func22 (by kernel_rfl) rfl #[.slice Ao19 t188.length co19, .slice Ao20 x7_1.length co20] rfl (by (try simp only [List.map_toArray, List.map_cons, List.map_nil]); first | done | rfl | (simp only [List.length_drop, List.length_take]; rfl)) ?_; (with_reducible refine (tangramref21_Less.calls k1 _ _ t188 _ _ x7_1 false _ ?side1 ?side2 ?side3 ?side4 A10.out).mono ?_); (case side1 => repeat (first | exact (Kd.R_reads' HO190.out).2.2 | (with_reducible refine Kd.C_alloc ?_ _) | (with_reducible refine Kd.C_drewN ?_ _) | (with_reducible refine Kd.C_drew ?_))); (case side2 => exact (Kd.R_reads' HO190.out).2.1); (case side3 => repeat (first | exact (Kd.R_reads' HO_7.out).2.2 | (with_reducible refine Kd.C_alloc ?_ _) | (with_reducible refine Kd.C_drewN ?_ _) | (with_reducible refine Kd.C_drew ?_))); (case side4 => exact (Kd.R_reads' HO_7.out).2.1); rintro e w' ⟨rfl, ⟨nd, rfl⟩⟩; refine ⟨_, rfl, ?_⟩))
            go_roundg k1
            case measure => have := HK1.out; omega
            case rel => exact ⟨(x7_1), (x9_1), (wrap64 (x10_1 + 1)), (wrap64 (x11_1 + 1)), (by first | rfl | (simp; done) | (simp [*]; done)), (by first | rfl | (simp; done) | (simp [*]; done)), (by first | rfl | (simp; done) | (simp [*]; done)), H', ⟨by have := HK1.out; omega⟩, ⟨by (with_reducible repeat (first | apply Kd.R_alloc | apply Kd.R_drewN | apply Kd.R_drew)); exact Kd.R_mono HO_7.out (fun _ hk => trivial)⟩, ⟨by (with_reducible repeat (first | refine blk_drewN ?_ _ | refine blk_drew ?_ | refine blk_alloc ?_ _)); exact BK181.out⟩, ⟨by repeat (first | (with_reducible first | exact HB.out | apply below_alloc | apply pw_below_drewN | apply below_drew1 | refine below_set ?_ GE181.out) | exact HB.out)⟩⟩
        · replace c11 := Bool.eq_false_iff.mpr c11
          subst c11
          have H1 : (if t195 = true then (tangramref21_Best.l0 k1 l1 t188 x11_1 1 (wrap64 (x11_1 + 1)) a0_0 l0_1) else (tangramref21_Best.l0 k1 l1 x7_1 x9_1 x10_1 (wrap64 (x11_1 + 1)) a0_0 l0_1)) = some (r1, r2, r3) := by rw [if_neg (show ¬ (false = true) by decide)] at H; exact H
          clear H
          have H := H1
          clear H1
          by_cases c21 : t195 = true
          · subst c21
            have H1 : (tangramref21_Best.l0 k1 l1 t188 x11_1 1 (wrap64 (x11_1 + 1)) a0_0 l0_1) = some (r1, r2, r3) := by rw [if_pos rfl] at H; exact H
            clear H
            have H := H1
            clear H1
            have H' := Aside0.mk H
            clear H
            have hcz22_0 : wr.cell? ⟨gb181, 0, none⟩ = some (.int .i64 a0_0) := (blk_cell BK181.out 0).trans rfl
            have hcz22_1 : wr.cell? ⟨gb181, 1, none⟩ = some (.slice A0_1 l0_1.length c0_1) := (blk_cell BK181.out 1).trans rfl
            have hfz22_0 := blk_frozen BK181.out 0
            have hfz22_1 := blk_frozen BK181.out 1
            go_wp2_with (first | ((with_reducible refine gate_callee (f := 38) rfl ?_); refine goesL_ (some 34) rfl rfl Try.func38 (by kernel_rfl) rfl #[.agg #[.int .i64 a0_0, .slice A0_1 l0_1.length c0_1], .slice A1 l1.length c1, .int .i64 x11_1] rfl (by (try simp only [List.map_toArray, List.map_cons, List.map_nil]); first | done | rfl | (simp only [List.length_drop, List.length_take]; rfl)) ?_; (with_reducible refine (tangramref21_Seen.calls k1 a0_0 _ _ l0_1 _ _ l1 x11_1 t188 t191 _ ?side1 ?side2 ?side3 ?side4 A8.out).mono ?_); (case side1 => repeat (first | exact (Kd.C_below HR0_1.out HB.out) | (with_reducible refine Kd.C_alloc ?_ _) | (with_reducible refine Kd.C_drewN ?_ _) | (with_reducible refine Kd.C_drew ?_))); (case side2 => exact HC0_1.out); (case side3 => repeat (first | exact (Kd.C_below HR1.out HB.out) | (with_reducible refine Kd.C_alloc ?_ _) | (with_reducible refine Kd.C_drewN ?_ _) | (with_reducible refine Kd.C_drew ?_))); (case side4 => exact HC1.out); rintro e w23 ⟨v189, v192, rfl, ho0, ho1, hb⟩; refine ⟨_, rfl, ?_⟩; have n0_ := Aside0.mk (Kd.R_mono (Kd.R_told (Kd.R_told (Kd.R_old (by (with_reducible repeat (first | apply Kd.R_alloc | apply Kd.R_drewN | apply Kd.R_drew)); exact HO_7.out) hb) (Kd.R_base ho0)) (Kd.R_base ho1)) (fun _ h_ => h_.1)); have n1_ := Aside0.mk (Kd.R_lower (Kd.R_new' ho0 (Kd.R_lt (by (with_reducible repeat (first | apply Kd.R_alloc | apply Kd.R_drewN | apply Kd.R_drew)); exact HO_7.out))) (below_size (by repeat (first | (with_reducible first | exact HB.out | apply below_alloc | apply pw_below_drewN | apply below_drew1 | refine below_set ?_ GE181.out) | exact HB.out)))); have n2_ := Aside0.mk (Kd.R_lower (Kd.R_new' ho1 (Kd.R_lt (by (with_reducible repeat (first | apply Kd.R_alloc | apply Kd.R_drewN | apply Kd.R_drew)); exact HO_7.out))) (below_size (by repeat (first | (with_reducible first | exact HB.out | apply below_alloc | apply pw_below_drewN | apply below_drew1 | refine below_set ?_ GE181.out) | exact HB.out)))); have n3_ := Aside0.mk (blk_below (g := gb181) (o := .cells #[.int .i64 a0_0, .slice A0_1 l0_1.length c0_1] 24 (0, 0)) (by (with_reducible repeat (first | refine blk_drewN ?_ _ | refine blk_drew ?_ | refine blk_alloc ?_ _)); exact BK181.out) hb); have n4_ := Aside0.mk (below_step (by repeat (first | (with_reducible first | exact HB.out | apply below_alloc | apply pw_below_drewN | apply below_drew1 | refine below_set ?_ GE181.out) | exact HB.out)) hb); clear HO_7; clear BK181; clear HB; have HO_7 := n0_; have HO190 := n1_; have HO193 := n2_; have BK181 := n3_; have HB := n4_; clear n0_ n1_ n2_ n3_ n4_; (try clear hb); (try clear hb2); (try clear hk); (try clear hi); (try clear ho0); (try clear ho1); obtain ⟨Ao24, co24, eo24⟩ := Kd.R_slice HO190.out; subst eo24; obtain ⟨Ao25, co25, eo25⟩ := Kd.R_slice HO_7.out; subst eo25) | ((with_reducible refine gate_callee (f := 15) rfl ?_); refine goesL_ (some 39) rfl rfl Try.func15 (by kernel_rfl) rfl #[.slice Ao24 t188.length co24, .slice Ao25 x7_1.length co25] rfl (by (try simp only [List.map_toArray, List.map_cons, List.map_nil]); first | done | rfl | (simp only [List.length_drop, List.length_take]; rfl)) ?_; (with_reducible refine (tangramref03_SameInts.calls k1 _ _ t188 _ _ x7_1 false _ ?side1 ?side2 ?side3 ?side4 A9.out).mono ?_); (case side1 => repeat (first | exact (Kd.R_reads' HO190.out).2.2 | (with_reducible refine Kd.C_alloc ?_ _) | (with_reducible refine Kd.C_drewN ?_ _) | (with_reducible refine Kd.C_drew ?_))); (case side2 => exact (Kd.R_reads' HO190.out).2.1); (case side3 => repeat (first | exact (Kd.R_reads' HO_7.out).2.2 | (with_reducible refine Kd.C_alloc ?_ _) | (with_reducible refine Kd.C_drewN ?_ _) | (with_reducible refine Kd.C_drew ?_))); (case side4 => exact (Kd.R_reads' HO_7.out).2.1); rintro e w' ⟨rfl, ⟨nd, rfl⟩⟩; refine ⟨_, rfl, ?_⟩) | ((with_reducible refine gate_callee (f := 22) rfl ?_); refine goesL_ (some 42) rfl rfl Try.func22 (by kernel_rfl) rfl #[.slice Ao24 t188.length co24, .slice Ao25 x7_1.length co25] rfl (by (try simp only [List.map_toArray, List.map_cons, List.map_nil]); first | done | rfl | (simp only [List.length_drop, List.length_take]; rfl)) ?_; (with_reducible refine (tangramref21_Less.calls k1 _ _ t188 _ _ x7_1 true _ ?side1 ?side2 ?side3 ?side4 A10.out).mono ?_); (case side1 => repeat (first | exact (Kd.R_reads' HO190.out).2.2 | (with_reducible refine Kd.C_alloc ?_ _) | (with_reducible refine Kd.C_drewN ?_ _) | (with_reducible refine Kd.C_drew ?_))); (case side2 => exact (Kd.R_reads' HO190.out).2.1); (case side3 => repeat (first | exact (Kd.R_reads' HO_7.out).2.2 | (with_reducible refine Kd.C_alloc ?_ _) | (with_reducible refine Kd.C_drewN ?_ _) | (with_reducible refine Kd.C_drew ?_))); (case side4 => exact (Kd.R_reads' HO_7.out).2.1); rintro e w' ⟨rfl, ⟨nd, rfl⟩⟩; refine ⟨_, rfl, ?_⟩))
            go_roundg k1
            case measure => have := HK1.out; omega
            case rel => exact ⟨(t188), (x11_1), (1), (wrap64 (x11_1 + 1)), (by first | rfl | (simp; done) | (simp [*]; done)), (by first | rfl | (simp; done) | (simp [*]; done)), (by first | rfl | (simp; done) | (simp [*]; done)), H', ⟨by have := HK1.out; omega⟩, ⟨by (with_reducible repeat (first | apply Kd.R_alloc | apply Kd.R_drewN | apply Kd.R_drew)); exact Kd.R_mono HO190.out (fun _ hk => trivial)⟩, ⟨by (with_reducible repeat (first | refine blk_drewN ?_ _ | refine blk_drew ?_ | refine blk_alloc ?_ _)); exact BK181.out⟩, ⟨by repeat (first | (with_reducible first | exact HB.out | apply below_alloc | apply pw_below_drewN | apply below_drew1 | refine below_set ?_ GE181.out) | exact HB.out)⟩⟩
          · replace c21 := Bool.eq_false_iff.mpr c21
            subst c21
            have H1 : (tangramref21_Best.l0 k1 l1 x7_1 x9_1 x10_1 (wrap64 (x11_1 + 1)) a0_0 l0_1) = some (r1, r2, r3) := by rw [if_neg (show ¬ (false = true) by decide)] at H; exact H
            clear H
            have H := H1
            clear H1
            have H' := Aside0.mk H
            clear H
            have hcz26_0 : wr.cell? ⟨gb181, 0, none⟩ = some (.int .i64 a0_0) := (blk_cell BK181.out 0).trans rfl
            have hcz26_1 : wr.cell? ⟨gb181, 1, none⟩ = some (.slice A0_1 l0_1.length c0_1) := (blk_cell BK181.out 1).trans rfl
            have hfz26_0 := blk_frozen BK181.out 0
            have hfz26_1 := blk_frozen BK181.out 1
            go_wp2_with (first | ((with_reducible refine gate_callee (f := 38) rfl ?_); refine goesL_ (some 34) rfl rfl Try.func38 (by kernel_rfl) rfl #[.agg #[.int .i64 a0_0, .slice A0_1 l0_1.length c0_1], .slice A1 l1.length c1, .int .i64 x11_1] rfl (by (try simp only [List.map_toArray, List.map_cons, List.map_nil]); first | done | rfl | (simp only [List.length_drop, List.length_take]; rfl)) ?_; (with_reducible refine (tangramref21_Seen.calls k1 a0_0 _ _ l0_1 _ _ l1 x11_1 t188 t191 _ ?side1 ?side2 ?side3 ?side4 A8.out).mono ?_); (case side1 => repeat (first | exact (Kd.C_below HR0_1.out HB.out) | (with_reducible refine Kd.C_alloc ?_ _) | (with_reducible refine Kd.C_drewN ?_ _) | (with_reducible refine Kd.C_drew ?_))); (case side2 => exact HC0_1.out); (case side3 => repeat (first | exact (Kd.C_below HR1.out HB.out) | (with_reducible refine Kd.C_alloc ?_ _) | (with_reducible refine Kd.C_drewN ?_ _) | (with_reducible refine Kd.C_drew ?_))); (case side4 => exact HC1.out); rintro e w27 ⟨v189, v192, rfl, ho0, ho1, hb⟩; refine ⟨_, rfl, ?_⟩; have n0_ := Aside0.mk (Kd.R_mono (Kd.R_told (Kd.R_told (Kd.R_old (by (with_reducible repeat (first | apply Kd.R_alloc | apply Kd.R_drewN | apply Kd.R_drew)); exact HO_7.out) hb) (Kd.R_base ho0)) (Kd.R_base ho1)) (fun _ h_ => h_.1)); have n1_ := Aside0.mk (Kd.R_lower (Kd.R_new' ho0 (Kd.R_lt (by (with_reducible repeat (first | apply Kd.R_alloc | apply Kd.R_drewN | apply Kd.R_drew)); exact HO_7.out))) (below_size (by repeat (first | (with_reducible first | exact HB.out | apply below_alloc | apply pw_below_drewN | apply below_drew1 | refine below_set ?_ GE181.out) | exact HB.out)))); have n2_ := Aside0.mk (Kd.R_lower (Kd.R_new' ho1 (Kd.R_lt (by (with_reducible repeat (first | apply Kd.R_alloc | apply Kd.R_drewN | apply Kd.R_drew)); exact HO_7.out))) (below_size (by repeat (first | (with_reducible first | exact HB.out | apply below_alloc | apply pw_below_drewN | apply below_drew1 | refine below_set ?_ GE181.out) | exact HB.out)))); have n3_ := Aside0.mk (blk_below (g := gb181) (o := .cells #[.int .i64 a0_0, .slice A0_1 l0_1.length c0_1] 24 (0, 0)) (by (with_reducible repeat (first | refine blk_drewN ?_ _ | refine blk_drew ?_ | refine blk_alloc ?_ _)); exact BK181.out) hb); have n4_ := Aside0.mk (below_step (by repeat (first | (with_reducible first | exact HB.out | apply below_alloc | apply pw_below_drewN | apply below_drew1 | refine below_set ?_ GE181.out) | exact HB.out)) hb); clear HO_7; clear BK181; clear HB; have HO_7 := n0_; have HO190 := n1_; have HO193 := n2_; have BK181 := n3_; have HB := n4_; clear n0_ n1_ n2_ n3_ n4_; (try clear hb); (try clear hb2); (try clear hk); (try clear hi); (try clear ho0); (try clear ho1); obtain ⟨Ao28, co28, eo28⟩ := Kd.R_slice HO190.out; subst eo28; obtain ⟨Ao29, co29, eo29⟩ := Kd.R_slice HO_7.out; subst eo29) | ((with_reducible refine gate_callee (f := 15) rfl ?_); refine goesL_ (some 39) rfl rfl Try.func15 (by kernel_rfl) rfl #[.slice Ao28 t188.length co28, .slice Ao29 x7_1.length co29] rfl (by (try simp only [List.map_toArray, List.map_cons, List.map_nil]); first | done | rfl | (simp only [List.length_drop, List.length_take]; rfl)) ?_; (with_reducible refine (tangramref03_SameInts.calls k1 _ _ t188 _ _ x7_1 false _ ?side1 ?side2 ?side3 ?side4 A9.out).mono ?_); (case side1 => repeat (first | exact (Kd.R_reads' HO190.out).2.2 | (with_reducible refine Kd.C_alloc ?_ _) | (with_reducible refine Kd.C_drewN ?_ _) | (with_reducible refine Kd.C_drew ?_))); (case side2 => exact (Kd.R_reads' HO190.out).2.1); (case side3 => repeat (first | exact (Kd.R_reads' HO_7.out).2.2 | (with_reducible refine Kd.C_alloc ?_ _) | (with_reducible refine Kd.C_drewN ?_ _) | (with_reducible refine Kd.C_drew ?_))); (case side4 => exact (Kd.R_reads' HO_7.out).2.1); rintro e w' ⟨rfl, ⟨nd, rfl⟩⟩; refine ⟨_, rfl, ?_⟩) | ((with_reducible refine gate_callee (f := 22) rfl ?_); refine goesL_ (some 42) rfl rfl Try.func22 (by kernel_rfl) rfl #[.slice Ao28 t188.length co28, .slice Ao29 x7_1.length co29] rfl (by (try simp only [List.map_toArray, List.map_cons, List.map_nil]); first | done | rfl | (simp only [List.length_drop, List.length_take]; rfl)) ?_; (with_reducible refine (tangramref21_Less.calls k1 _ _ t188 _ _ x7_1 false _ ?side1 ?side2 ?side3 ?side4 A10.out).mono ?_); (case side1 => repeat (first | exact (Kd.R_reads' HO190.out).2.2 | (with_reducible refine Kd.C_alloc ?_ _) | (with_reducible refine Kd.C_drewN ?_ _) | (with_reducible refine Kd.C_drew ?_))); (case side2 => exact (Kd.R_reads' HO190.out).2.1); (case side3 => repeat (first | exact (Kd.R_reads' HO_7.out).2.2 | (with_reducible refine Kd.C_alloc ?_ _) | (with_reducible refine Kd.C_drewN ?_ _) | (with_reducible refine Kd.C_drew ?_))); (case side4 => exact (Kd.R_reads' HO_7.out).2.1); rintro e w' ⟨rfl, ⟨nd, rfl⟩⟩; refine ⟨_, rfl, ?_⟩))
            go_roundg k1
            case measure => have := HK1.out; omega
            case rel => exact ⟨(x7_1), (x9_1), (x10_1), (wrap64 (x11_1 + 1)), (by first | rfl | (simp; done) | (simp [*]; done)), (by first | rfl | (simp; done) | (simp [*]; done)), (by first | rfl | (simp; done) | (simp [*]; done)), H', ⟨by have := HK1.out; omega⟩, ⟨by (with_reducible repeat (first | apply Kd.R_alloc | apply Kd.R_drewN | apply Kd.R_drew)); exact Kd.R_mono HO_7.out (fun _ hk => trivial)⟩, ⟨by (with_reducible repeat (first | refine blk_drewN ?_ _ | refine blk_drew ?_ | refine blk_alloc ?_ _)); exact BK181.out⟩, ⟨by repeat (first | (with_reducible first | exact HB.out | apply below_alloc | apply pw_below_drewN | apply below_drew1 | refine below_set ?_ GE181.out) | exact HB.out)⟩⟩
      · rw [if_neg c7] at H
        have c7b0 : decide (x11_1 < (wrap64 (2 * (l0_1.length : Int)))) = false := decide_eq_false c7
        clear c7
        simp only [Option.some.injEq, Prod.mk.injEq] at H
        obtain ⟨rfl, rfl, rfl⟩ := H
        have hcz30_0 : wr.cell? ⟨gb181, 0, none⟩ = some (.int .i64 a0_0) := (blk_cell BK181.out 0).trans rfl
        have hcz30_1 : wr.cell? ⟨gb181, 1, none⟩ = some (.slice A0_1 l0_1.length c0_1) := (blk_cell BK181.out 1).trans rfl
        have hfz30_0 := blk_frozen BK181.out 0
        have hfz30_1 := blk_frozen BK181.out 1
        go_wp2
        go_ret3
        exact ⟨_, by first | rfl | (simp [errW_none, errW_some] <;> rfl) | (simp [*, errW_none, errW_some] <;> rfl), by (with_reducible repeat (first | apply Kd.R_alloc | apply Kd.R_drewN | apply Kd.R_drew)); exact HO_7.out, by repeat (first | (with_reducible first | exact HB.out | apply below_alloc | apply pw_below_drewN | apply below_drew1 | refine below_set ?_ GE181.out) | exact HB.out)⟩

/-! ### the document's Code: told by hand -/
def tangramref21_Code.f (k : Nat) (a0_0 : Int) (l0_1 : List S89) (l1 : List (List Int)) : Option (List Int × Int) := (tangramref21_Fault.f k a0_0 l0_1 l1).bind fun t => if t = 0 then (tangramref21_Best.f k a0_0 l0_1 l1).bind fun u => some (u.1, 0) else some ([], t)
theorem tangramref21_Code.mono : ∀ a0 a1 a2 k, LeO (tangramref21_Code.f k a0 a1 a2) (tangramref21_Code.f (k + 1) a0 a1 a2) := fun _ _ _ _ =>
  LeO.bind (tangramref21_Fault.mono _ _ _ _) (fun _ => LeO.ite (LeO.bind (tangramref21_Best.mono _ _ _ _) (fun _ => LeO.refl _)) (LeO.refl _))
theorem tangramref21_Code.calls (k : Nat) (a0_0 : Int) (A0_1 : Option Addr) (c0_1 : Nat) (l0_1 : List (S89)) (A1 : Option Addr) (c1 : Nat) (l1 : List (List Int)) (r1 : List Int) (r2 : Int) (w : World) (hr0_1 : Kd.C k89 w A0_1 l0_1.length l0_1) (hc0_1 : l0_1.length ≤ c0_1) (hr1 : Kd.C (Kd.slice 3 (Kd.int .i64)) w A1 l1.length l1) (hc1 : l1.length ≤ c1) (h : tangramref21_Code.f k a0_0 l0_1 l1 = some (r1, r2)) :
    Calls Try.prog 17 #[.agg #[.int .i64 a0_0, .slice A0_1 l0_1.length c0_1], .slice A1 l1.length c1] w fun e w' => ∃ v0_ : Value, e = .returned (.tuple #[v0_, .int .i64 r2]) ∧ Kd.R (Kd.int .i64) 3 w' w.heap.size (fun _ => True) v0_ r1 ∧ Below w.heap.size w w' := by
  obtain ⟨e, ht, h⟩ := Option.bind_eq_some_iff.mp h
  refine One.refcode_calls a0_0 A0_1 l0_1.length c0_1 _ e w (fun W hW => tangramref21_Fault.calls k a0_0 A0_1 c0_1 l0_1 A1 c1 l1 e W (Kd.C_below hr0_1 hW) hc0_1 (Kd.C_below hr1 hW) hc1 ht) (r1, r2) (fun he => ?_) (fun he => ?_)
  · rw [if_neg he] at h
    exact (Option.some.inj h).symm
  · rw [if_pos he] at h
    obtain ⟨⟨cd, x, j⟩, hu, h⟩ := Option.bind_eq_some_iff.mp h
    obtain ⟨rfl, rfl⟩ : cd = r1 ∧ 0 = r2 := by simpa using h
    exact ⟨rfl, j, x, fun W hW => (tangramref21_Best.calls k a0_0 A0_1 c0_1 l0_1 A1 c1 l1 cd x j W (Kd.C_below hr0_1 hW) hc0_1 (Kd.C_below hr1 hW) hc1 hu).mono fun _ _ ⟨v0, q1, q2, q4⟩ => ⟨v0, q1, Kd.R_mono q2 (fun _ _ => trivial), q4⟩⟩

/-! ### the document's Turns: told by hand -/
def tangramref21_Turns.f (k : Nat) (a0_0 : Int) (l0_1 : List S89) (l1 : List (List Int)) : Option (Int × Int) := (tangramref21_Fault.f k a0_0 l0_1 l1).bind fun t => if t = 0 then (tangramref21_Best.f k a0_0 l0_1 l1).bind fun u => some (u.2.2, 0) else some (0, t)
theorem tangramref21_Turns.mono : ∀ a0 a1 a2 k, LeO (tangramref21_Turns.f k a0 a1 a2) (tangramref21_Turns.f (k + 1) a0 a1 a2) := fun _ _ _ _ =>
  LeO.bind (tangramref21_Fault.mono _ _ _ _) (fun _ => LeO.ite (LeO.bind (tangramref21_Best.mono _ _ _ _) (fun _ => LeO.refl _)) (LeO.refl _))
theorem tangramref21_Turns.calls (k : Nat) (a0_0 : Int) (A0_1 : Option Addr) (c0_1 : Nat) (l0_1 : List (S89)) (A1 : Option Addr) (c1 : Nat) (l1 : List (List Int)) (r1 : Int) (r2 : Int) (w : World) (hr0_1 : Kd.C k89 w A0_1 l0_1.length l0_1) (hc0_1 : l0_1.length ≤ c0_1) (hr1 : Kd.C (Kd.slice 3 (Kd.int .i64)) w A1 l1.length l1) (hc1 : l1.length ≤ c1) (h : tangramref21_Turns.f k a0_0 l0_1 l1 = some (r1, r2)) :
    Calls Try.prog 19 #[.agg #[.int .i64 a0_0, .slice A0_1 l0_1.length c0_1], .slice A1 l1.length c1] w fun e w' => e = .returned (.tuple #[.int .i64 r1, .int .i64 r2]) ∧ Below w.heap.size w w' := by
  obtain ⟨e, ht, h⟩ := Option.bind_eq_some_iff.mp h
  refine One.refturns_calls a0_0 A0_1 l0_1.length c0_1 _ e w (fun W hW => tangramref21_Fault.calls k a0_0 A0_1 c0_1 l0_1 A1 c1 l1 e W (Kd.C_below hr0_1 hW) hc0_1 (Kd.C_below hr1 hW) hc1 ht) (r1, r2) (fun he => ?_) (fun he => ?_)
  · rw [if_neg he] at h
    exact (Option.some.inj h).symm
  · rw [if_pos he] at h
    obtain ⟨⟨cd, x, j⟩, hu, h⟩ := Option.bind_eq_some_iff.mp h
    obtain ⟨rfl, rfl⟩ : j = r1 ∧ 0 = r2 := by simpa using h
    exact ⟨rfl, cd, x, fun W hW => (tangramref21_Best.calls k a0_0 A0_1 c0_1 l0_1 A1 c1 l1 cd x j W (Kd.C_below hr0_1 hW) hc0_1 (Kd.C_below hr1 hW) hc1 hu).mono fun _ _ ⟨v0, q1, q2, q4⟩ => ⟨v0, q1, Kd.R_mono q2 (fun _ _ => trivial), q4⟩⟩

end Go.Proofs.Yteeihjpnhjnknaa.GAll
/- DERIVED. Maps: what the program's and the document's functions answer, case by case. -/




namespace Go.Proofs.Yteeihjpnhjnknaa.Rot
open Go.RowKit Go.Proofs.YteeihjpnhjnknaaW.PrintWords Go.Proofs.YteeihjpnhjnknaaW.PrintLast Go.Proofs.YteeihjpnhjnknaaW.PrintMore Go.Proofs.Yteeihjpnhjnknaa.GAll Go.Proofs.Yteeihjpnhjnknaa.Mem Go.Proofs.Yteeihjpnhjnknaa.Seen
set_option linter.unusedVariables false
set_option linter.unusedSimpArgs false
/-- a list of lists that is no longer than what comes in -/
def Small (r : List (List Int)) : Prop := r.length * 24 ≤ 140737488351232 ∧ ∀ l ∈ r, l.length * 8 ≤ 140737488351232
theorem Small.all {r : List (List Int)} (h : Small r) : (r.all fun row => decide (row.length * 8 ≤ 140737488351232)) = true := by
  rw [List.all_eq_true]
  exact fun x hx => decide_eq_true (h.2 x hx)
theorem good_not {n : Int} {l : List Ed} (h : ¬ PureV.Good n l) : ValH.goodB n (ends l) ≠ true := fun q => h ((PureV.good_iff n l).1 q)
theorem rows_one (fr ds : List Int) : ∀ (r : List (List Int)) (v : Nat) (S : List Bool), (rows fr ds v r S).2 ≠ 1
  | [], v, S => by show (0 : Int) ≠ 1; decide
  | row :: r, v, S => by
    rw [rows_cons]
    cases h : elems fr v row S with
    | error e =>
      have := elems_err fr v row S e h
      show e ≠ 1
      omega
    | ok S' =>
      rw [after_ok]
      split
      · exact rows_one fr ds r (v + 1) S'
      · show (113 : Int) ≠ 1; decide
/-- both checks answer alike -/
theorem both_check (n : Int) (l : List Ed) (r : List (List Int)) (hs : Small r) : ∃ res, Ev (fun k => rot_Check.f k n l r) res ∧ Ev (fun k => tangramref11_Check.f k n l r) res ∧ (res.2 = 0 → res = (0, 0)) ∧ (res.2 = 0 ↔ ∃ N : Nat, n = N ∧ PureV.Good n l ∧ IsRot (frs l) N r) ∧ (res.2 = 1 ↔ ¬ PureV.Good n l) := by
  have hr : ∀ {res : Int × Int}, Graph.checkR n (ends l) r = res → Ev (fun k => tangramref11_Check.f k n l r) res := by
    rintro res rfl
    refine Ev.congr (fun k => ?_) (Ev.now _)
    unfold tangramref11_Check.f
    rw [if_pos hs.all]
    rfl
  obtain ⟨b, hb, _, hg⟩ := PureV.valid n l
  cases b with
  | false =>
    have hG : ¬ PureV.Good n l := fun q => absurd (hg.2 q) (by decide)
    refine ⟨_, check_no hb, hr ?_, fun h => by simp at h, ⟨fun h => by simp at h, ?_⟩, ⟨fun _ => hG, fun _ => rfl⟩⟩
    · unfold Graph.checkR
      rw [if_neg (good_not hG)]
    · rintro ⟨N, rfl, h, _⟩
      exact absurd h hG
  | true =>
    have hG := hg.1 rfl
    have hB : ValH.goodB n (ends l) = true := (PureV.good_iff n l).2 hG
    by_cases hl : (r.length : Int) = n
    · obtain ⟨N, rfl⟩ := Int.eq_ofNat_of_zero_le hG.1
      have hl2 : r.length = N := by omega
      obtain ⟨ds, hd, h1, h2⟩ := degrees_ev hG hb
      have hz := rows_zero (frs l) ds r 0 (List.replicate (frs l).length false)
      have hc := check_all hG hb hl2 hd h1
      refine ⟨_, hc, hr ?_, fun h => hz.resolve_right (fun q => q h), ⟨fun h => ?_, ?_⟩, ⟨fun h => ?_, fun h => absurd hG h⟩⟩
      · unfold Graph.checkR
        rw [if_pos hB, if_pos hl, degs_of h1 h2, Int.toNat_natCast, frs_length, ends_length]
        rfl
      · exact ⟨N, rfl, hG, (isRot_of hl2 h2).1 (hz.resolve_right (fun q => q h))⟩
      · rintro ⟨M, e, _, h⟩
        obtain rfl : N = M := by omega
        rw [(isRot_of hl2 h2).2 h]
      · exact absurd h (rows_one (frs l) ds r 0 (List.replicate (frs l).length false))
    · refine ⟨_, check_len hb hl, hr ?_, fun h => by simp at h, ⟨fun h => by simp at h, ?_⟩, ⟨fun h => by simp at h, fun h => absurd hG h⟩⟩
      · unfold Graph.checkR
        rw [if_pos hB, if_neg hl]
      · rintro ⟨N, rfl, _, h⟩
        exact absurd h.len (by omega)
/-- a map of a good graph -/
structure IsMap (n : Nat) (l : List Ed) (r : List (List Int)) : Prop where
  good : PureV.Good (n : Int) l
  rot : IsRot (frs l) n r
section
variable {n : Nat} {l : List Ed} {r : List (List Int)}
theorem IsMap.len (h : IsMap n l r) : (nxOf l r).length = 2 * l.length := Graph.setRows_length r _ _
theorem IsMap.fit (h : IsMap n l r) : Fit n (nxOf l r) (toOf l) := fit_map h.good h.rot
theorem IsMap.rows (h : IsMap n l r) : l.length ≤ 4194304 ∧ r.length ≤ 1048576 ∧ ∀ row ∈ r, row.length ≤ 8388608 ∧ ∀ x ∈ row, 0 ≤ x ∧ x < ((2 * l.length : Nat) : Int) := by
  have h1 := h.good.2.1
  have h2 := h.good.2.2.1
  have h3 := h.rot.len
  refine ⟨h2, by omega, fun row hrow => ?_⟩
  obtain ⟨v, hv, rfl⟩ := List.getElem_of_mem hrow
  have e : r[v] = gl r v := by unfold gl; rw [List.getD_eq_getElem?_getD, List.getElem?_eq_getElem hv]; rfl
  rw [e]
  refine ⟨?_, fun x hx => ?_⟩
  · rw [row_len h.rot (by omega)]
    have := cnt_le (frs l) (frs l).length v
    have := frs_length l
    omega
  · have := leaves_iff.1 ((h.rot.mem v (by omega) x).1 hx)
    rw [frs_length] at this
    exact ⟨this.1, this.2.1⟩
theorem next_ev (h : IsMap n l r) (hc : Ev (fun k => rot_Check.f k (n : Int) l r) (0, 0)) : Ev (fun k => rot_Next.f k (n : Int) l r) (nxOf l r, 0) := by
  unfold rot_Next.f
  refine Ev.bind hc (Ev.congr (fun k => if_pos rfl) (Ev.congr (fun k => if_pos ?_) (Ev.now _)))
  obtain ⟨a, b, c⟩ := h.rows
  unfold rot_Next.fit
  rw [Bool.and_eq_true, Bool.and_eq_true, List.all_eq_true, decide_eq_true_eq, decide_eq_true_eq]
  refine ⟨a, b, fun row hrow => ?_⟩
  rw [Bool.and_eq_true, List.all_eq_true, decide_eq_true_eq]
  exact ⟨(c row hrow).1, fun x hx => decide_eq_true ((c row hrow).2 x hx)⟩
theorem refnext_ev (h : IsMap n l r) (hc : Ev (fun k => tangramref11_Check.f k (n : Int) l r) (0, 0)) : Ev (fun k => tangramref11_Next.f k (n : Int) l r) (nxOf l r, 0) := by
  unfold tangramref11_Next.f
  refine Ev.bind hc (Ev.congr (fun k => if_pos rfl) (Ev.congr (fun k => if_pos ?_) (Ev.now _)))
  obtain ⟨a, b, c⟩ := h.rows
  unfold tangramref11_Next.fit
  rw [Bool.and_eq_true, Bool.and_eq_true, List.all_eq_true, decide_eq_true_eq, decide_eq_true_eq]
  refine ⟨a, b, fun row hrow => ?_⟩
  rw [Bool.and_eq_true, List.all_eq_true, decide_eq_true_eq]
  exact ⟨(c row hrow).1, fun x hx => decide_eq_true ((c row hrow).2 x hx)⟩
/-- how many parts -/
def parts (n : Nat) (l : List Ed) : Nat := (comps_Of.out (n : Int) l).2
theorem of_ev (hg : PureV.Good (n : Int) l) : ∃ o, Ev (fun k => comps_Of.f k (n : Int) l) (o, (parts n l : Int), 0) ∧ Ev (fun k => tangramref05_Of.f k (n : Int) l) (o, (parts n l : Int), 0) := by
  obtain ⟨b, h1, h2, h3⟩ := PureV.valid (n : Int) l
  rw [h3.2 hg] at h1 h2
  refine ⟨(comps_Of.out (n : Int) l).1.map (fun (x : Nat) => (x : Int)), ?_, ?_⟩
  · unfold comps_Of.f
    exact Ev.bind h1 (Ev.congr (fun k => if_pos rfl) (Ev.congr (fun k => if_pos ⟨hg.1, hg.2.1⟩) (Ev.now _)))
  · unfold tangramref05_Of.f
    refine Ev.bind h2 (Ev.congr (fun k => if_pos rfl) (Ev.congr (fun k => if_pos ?_) (Ev.now _)))
    obtain ⟨g1, g2, g3, g4⟩ := hg
    unfold tangramref05_Of.fit
    simp only [Bool.and_eq_true, decide_eq_true_eq, List.all_eq_true]
    refine ⟨⟨⟨g1, g2⟩, g3⟩, fun x hx => ?_⟩
    obtain ⟨i, hi, rfl⟩ := List.getElem_of_mem hx
    obtain ⟨⟨e1, e2, e3⟩, _⟩ := g4 i hi
    have e : PureV.rdE l (i : Nat) = l[i] := by
      show l.getD ((i : Int).toNat) _ = _
      rw [Int.toNat_natCast, List.getD_eq_getElem?_getD, List.getElem?_eq_getElem hi]
      rfl
    rw [e] at e1 e2 e3
    exact ⟨⟨⟨by omega, by omega⟩, by omega⟩, by omega⟩
end
/-- what a look at a map answers, and what the document finds wrong first -/
inductive Case (n : Int) (l : List Ed) (r : List (List Int)) : Prop
  | bad (v e : Int) (h0 : e ≠ 0) (h1 : e = 1 ↔ ¬ PureV.Good n l) (hl : Ev (fun k => canon_look.f k n l r) (0, [], [], e, 0)) (hc : Ev (fun k => tangramref11_Check.f k n l r) (v, e)) (hf : Ev (fun k => tangramref21_Fault.f k n l r) e)
  | apart (hg : PureV.Good n l) (hl : Ev (fun k => canon_look.f k n l r) (0, [], [], 0, 210)) (hc : Ev (fun k => tangramref11_Check.f k n l r) (0, 0)) (hf : Ev (fun k => tangramref21_Fault.f k n l r) 210)
  | fine (N : Nat) (hN : n = N) (hm : IsMap N l r) (hp : parts N l = 1) (h0 : 0 < l.length) (hl : Ev (fun k => canon_look.f k n l r) (n, nxOf l r, toOf l, 0, 0)) (hc : Ev (fun k => tangramref11_Check.f k n l r) (0, 0)) (hf : Ev (fun k => tangramref21_Fault.f k n l r) 0)
theorem case (n : Int) (l : List Ed) (r : List (List Int)) (hs : Small r) : Case n l r := by
  obtain ⟨res, h1, h2, h3, h4, h5⟩ := both_check n l r hs
  by_cases h0 : res.2 = 0
  · rw [h3 h0] at h1 h2
    obtain ⟨N, rfl, hg, hR⟩ := h4.1 h0
    have hm : IsMap N l r := ⟨hg, hR⟩
    obtain ⟨o, o1, o2⟩ := of_ev hg
    have n1 := next_ev hm h1
    have hlook : ∀ {res}, canon_look.told (N : Int) l (nxOf l r) (o, (parts N l : Int), 0) = some res → Ev (fun k => canon_look.f k (N : Int) l r) res := fun hres => by
      unfold canon_look.f
      refine Ev.bind n1 (Ev.congr (fun k => if_pos rfl) (Ev.bind o1 (Ev.congr (fun k => hres) (Ev.now _))))
    have hfit : (nxOf l r).length = 2 * l.length ∧ l.length ≤ 4194304 ∧ (0 : Int) = 0 := ⟨hm.len, hg.2.2.1, rfl⟩
    by_cases hk : parts N l = 1 ∧ 0 < l.length
    · refine .fine N rfl hm hk.1 hk.2 (hlook ?_) h2 ?_
      · unfold canon_look.told
        rw [if_pos hfit, if_pos ⟨by rw [hk.1]; rfl, by omega⟩]
        rfl
      · unfold tangramref21_Fault.f
        refine Ev.bind h2 (Ev.congr (fun k => if_pos rfl) (Ev.bind o2 (Ev.congr (fun k => ?_) (Ev.now _))))
        simp only
        rw [hk.1, if_pos (by rfl), if_neg (by omega)]
    · refine .apart hg (hlook ?_) h2 ?_
      · unfold canon_look.told
        rw [if_pos hfit, if_neg (fun q => hk ⟨by have := q.1; simp only at this; omega, by omega⟩)]
      · unfold tangramref21_Fault.f
        refine Ev.bind h2 (Ev.congr (fun k => if_pos rfl) (Ev.bind o2 (Ev.congr (fun k => ?_) (Ev.now _))))
        simp only
        by_cases hp : parts N l = 1
        · rw [if_pos (by omega), if_pos (by omega)]
        · rw [if_neg (by omega)]
  · refine .bad res.1 res.2 h0 h5 ?_ h2 ?_
    · unfold canon_look.f rot_Next.f
      refine Ev.bind (Ev.bind h1 (Ev.congr (fun k => if_neg h0) (Ev.now _))) (Ev.congr (fun k => if_neg h0) (Ev.now _))
    · unfold tangramref21_Fault.f
      exact Ev.bind h2 (Ev.congr (fun k => if_neg h0) (Ev.now _))
section
variable {n : Nat} {l : List Ed} {r : List (List Int)}
/-- what is seen from a half-edge -/
abbrev seenOf (n : Nat) (l : List Ed) (r : List (List Int)) (root : Nat) : St := Seen.all n (nxOf l r) (toOf l) (root : Int)
theorem seen_ev (h : IsMap n l r) (hc : Ev (fun k => tangramref11_Check.f k (n : Int) l r) (0, 0)) {root : Nat} (hr : root < 2 * l.length) : Ev (fun k => tangramref21_Seen.f k (n : Int) l r (root : Int)) ((seenOf n l r root).cd, (seenOf n l r root).num) := by
  unfold tangramref21_Seen.f
  refine Ev.bind (refnext_ev h hc) (Ev.congr (fun k => if_pos ?_) (Ev.now _))
  have hl := h.len
  have hll := h.good.2.2.1
  unfold tangramref21_Seen.fit
  rw [Bool.and_eq_true, Bool.and_eq_true, Bool.and_eq_true, decide_eq_true_eq, List.all_eq_true, List.all_eq_true]
  refine ⟨⟨by omega, by omega, ?_, hll⟩, ?_, fun x hx => ?_, fun x hx => ?_⟩
  · have e : ((nxOf l r).length : Int) = ((2 * l.length : Nat) : Int) := by rw [hl]
    simp only
    omega
  · exact Seen.fit_iff.2 h.fit
  · exact decide_eq_true (ends_ne h.good x hx)
  · exact decide_eq_true (cnt_per h.good h.rot (List.mem_range.1 hx))
theorem code_ev (h : IsMap n l r) {root : Nat} (hr : root < 2 * l.length) : Ev (fun k => canon_plane_code.f k (n : Int) (nxOf l r) (toOf l) (root : Int)) ((seenOf n l r root).cd, (seenOf n l r root).ord) := by
  unfold canon_plane_code.f
  refine Ev.congr (fun k => if_pos ⟨by omega, by omega, ?_, Seen.fit_iff.2 h.fit⟩) (Ev.now _)
  rw [h.len]; omega
theorem seen_cd (h : IsMap n l r) (root : Nat) : (seenOf n l r root).cd.length ≤ 9000000000000000 := all_cd h.fit _
end
end Go.Proofs.Yteeihjpnhjnknaa.Rot
/- DERIVED. What is copied; lists that are the same. No program. -/



namespace Go.Proofs.Yteeihjpnhjnknaa.Rot
open Go.RowKit Go.Proofs.YteeihjpnhjnknaaW.PrintWords Go.Proofs.YteeihjpnhjnknaaW.PrintLast Go.Proofs.YteeihjpnhjnknaaW.PrintMore Go.Proofs.Yteeihjpnhjnknaa.GAll Go.Proofs.Yteeihjpnhjnknaa.Mem Go.Proofs.Yteeihjpnhjnknaa.Seen
set_option linter.unusedVariables false
set_option linter.unusedSimpArgs false
theorem w1 {i : Nat} (h : i < 9223372036854775807) : wrap64 ((i : Int) + 1) = ((i + 1 : Nat) : Int) := by rw [IntWalk.wrap64_in _ (by omega)]; omega
theorem gi_get {l : List Int} {i : Nat} (h : i < l.length) : gi l i = l[i] := by unfold gi; rw [List.getD_eq_getElem?_getD, List.getElem?_eq_getElem h]; rfl
theorem ints_ev {a b : List Int} (hm : a.length ≤ 9000000000000000) : Ev (fun k => tangramref03_SameInts.f k a b) (decide (a = b)) := by
  by_cases h : a.length = b.length
  · have loop : ∀ (d i : Nat), i + d = a.length → a.take i = b.take i → Ev (fun k => tangramref03_SameInts.l0 k a b (i : Int)) (decide (a = b)) := by
      intro d
      induction d with
      | zero =>
        intro i hi ht
        rw [List.take_of_length_le (by omega), List.take_of_length_le (by omega)] at ht
        rw [decide_eq_true ht]
        refine Ev.step (f := fun _ => some true) (fun k => ?_) (Ev.now _)
        simp only [tangramref03_SameInts.l0]
        rw [if_neg (by omega)]
      | succ d ih =>
        intro i hi ht
        have hx : i < a.length := by omega
        have hy : i < b.length := by omega
        by_cases e : a[i] = b[i]
        · refine Ev.step (fun k => ?_) (ih (i + 1) (by omega) (by rw [List.take_succ_eq_append_getElem hx, List.take_succ_eq_append_getElem hy, ht, e]))
          simp only [tangramref03_SameInts.l0]
          rw [if_pos (by omega), if_pos (by omega), if_pos (by omega), gi_rd, gi_rd, gi_get hx, gi_get hy, if_pos e, w1 (by omega)]
        · rw [decide_eq_false (by rintro rfl; exact e rfl)]
          refine Ev.step (f := fun _ => some false) (fun k => ?_) (Ev.now _)
          simp only [tangramref03_SameInts.l0]
          rw [if_pos (by omega), if_pos (by omega), if_pos (by omega), gi_rd, gi_rd, gi_get hx, gi_get hy, if_neg e]
    have := loop a.length 0 (by omega) rfl
    unfold tangramref03_SameInts.f
    exact Ev.congr (fun k => if_pos (by omega)) this
  · rw [decide_eq_false (fun e => h (by rw [e]))]
    unfold tangramref03_SameInts.f
    exact Ev.congr (fun k => if_neg (by omega)) (Ev.now _)
theorem ints_same {a : List Int} (hm : a.length ≤ 9000000000000000) : Ev (fun k => tangramref03_SameInts.f k a a) true := by
  have := ints_ev (a := a) (b := a) hm
  rw [decide_eq_true rfl] at this
  exact this
theorem copy3_ev (n : Int) (l : List Ed) (hl : l.length ≤ 8796093022208) : Ev (fun k => tangramref03_Copy.f k n l) (n, l) := by
  have loop : ∀ (d i : Nat), i + d = l.length → Ev (fun k => tangramref03_Copy.l0 k (l.take i) (i : Int) n l) (n, l) := by
    intro d
    induction d with
    | zero =>
      intro i hi
      refine Ev.step (f := fun _ => some (n, l)) (fun k => ?_) (Ev.now _)
      simp only [tangramref03_Copy.l0]
      rw [if_neg (by omega), List.take_of_length_le (by omega)]
    | succ d ih =>
      intro i hi
      have hx : i < l.length := by omega
      refine Ev.step (fun k => ?_) (ih (i + 1) (by omega))
      simp only [tangramref03_Copy.l0]
      have e : PureV.rdE l (i : Nat) = l[i] := by
        show l.getD ((i : Int).toNat) _ = _
        rw [Int.toNat_natCast, List.getD_eq_getElem?_getD, List.getElem?_eq_getElem hx]
        rfl
      rw [if_pos (by omega), if_pos (by omega), if_pos (by rw [List.length_take]; omega), w1 (by omega), List.take_succ_eq_append_getElem hx]
      change tangramref03_Copy.l0 k (l.take i ++ [⟨(PureV.rdE l (i : Nat)).f0, (PureV.rdE l (i : Nat)).f1⟩]) _ n l = _
      rw [e]
  exact loop l.length 0 (by omega)
theorem copy11_ev (r : List (List Int)) (hs : Small r) : Ev (fun k => tangramref11_Copy.f k r) r := by
  have h1 := hs.1
  have loop : ∀ (d i : Nat), i + d = r.length → Ev (fun k => tangramref11_Copy.l0 k r (r.take i) (i : Int)) r := by
    intro d
    induction d with
    | zero =>
      intro i hi
      refine Ev.step (f := fun _ => some r) (fun k => ?_) (Ev.now _)
      simp only [tangramref11_Copy.l0]
      rw [if_neg (by omega), List.take_of_length_le (by omega)]
    | succ d ih =>
      intro i hi
      have hx : i < r.length := by omega
      have h2 := hs.2 _ (List.getElem_mem hx)
      refine Ev.step (fun k => ?_) (ih (i + 1) (by omega))
      simp only [tangramref11_Copy.l0]
      have e : r.getD ((i : Int).toNat) [] = r[i] := by rw [Int.toNat_natCast, List.getD_eq_getElem?_getD, List.getElem?_eq_getElem hx]; rfl
      rw [if_pos (by omega), Option.bind_some, if_pos (by omega)]
      change (if ([] : List Int).length + (r.getD ((i : Int).toNat) []).length < _ then (if _ then tangramref11_Copy.l0 k r (r.take i ++ [[] ++ r.getD ((i : Int).toNat) []]) _ else none) else none) = _
      rw [e, List.nil_append, if_pos (by simp only [List.length_nil]; omega), if_pos (by rw [List.length_take]; omega), w1 (by omega), List.take_succ_eq_append_getElem hx]
  exact loop r.length 0 (by omega)
theorem copied_ev (n : Int) (l : List Ed) (r : List (List Int)) (hl : l.length ≤ 8796093022208) (hs : Small r) : Ev (fun k => tangramlaw21_copied.f k n l r) (n, l, r) := by
  unfold tangramlaw21_copied.f
  exact Ev.bind (copy3_ev n l hl) (Ev.bind (copy11_ev r hs) (Ev.now _))
end Go.Proofs.Yteeihjpnhjnknaa.Rot
-- Written by a program of this session (wip/tools/printx.py) over the kit's printer and texts of its own; it is no print of print.sh.

namespace Go.Proofs.Yteeihjpnhjnknaa.GAll
open Go.RowKit Go.Proofs.YteeihjpnhjnknaaW.PrintWords Go.Proofs.YteeihjpnhjnknaaW.PrintLast Go.Proofs.YteeihjpnhjnknaaW.PrintMore
attribute [local go_sem] max2_int min2_int max_two min_two max_three min_three max_four min_four   -- for this text's walks alone
set_option linter.unusedVariables false
set_option linter.unusedSimpArgs false

/-! ### canon_less_int: function 42 -/
def canon_less_int.l0 : Nat → List Int → List Int → Int → Int → Option (Bool)
  | 0, _, _, _, _ => none
  | k + 1, x0, x1, x7, x8 => if x8 < x7 then (if x8 ≥ (x1.length : Int) then (some false) else (if 0 ≤ x8 then (if x8 < (x0.length : Int) then (if x8 < (x1.length : Int) then (if (rd x0 x8) = (rd x1 x8) then (canon_less_int.l0 k x0 x1 x7 (wrap64 (x8 + 1))) else (some (decide ((rd x0 x8) < (rd x1 x8))))) else (none)) else (none)) else (none))) else (some (decide ((x0.length : Int) < (x1.length : Int))))
def canon_less_int.f (k : Nat) (l0 : List Int) (l1 : List Int) : Option (Bool) := canon_less_int.l0 k l0 l1 (l0.length : Int) 0
theorem canon_less_int.mono_l : ∀ k, (∀ y0 y1 y2 y3, LeO (canon_less_int.l0 k y0 y1 y2 y3) (canon_less_int.l0 (k + 1) y0 y1 y2 y3))
  | 0 => fun _ _ _ _ r h => by simp [canon_less_int.l0] at h
  | k + 1 => by
    have ih0 := canon_less_int.mono_l k
    · intro y0 y1 y2 y3
      unfold canon_less_int.l0
      repeat' first
      | (with_reducible exact ih0 _ _ _ _)
      | (with_reducible exact LeO.refl _)
      | (with_reducible exact LeO.none _)
      | (with_reducible refine LeO.ite ?_ ?_)
      | (with_reducible refine LeO.bind ?_ (fun _ => ?_))
      | exact ih0 _ _ _ _
      | exact LeO.none _
      | refine LeO.ite ?_ ?_
      | refine LeO.bind ?_ (fun _ => ?_)
theorem canon_less_int.mono : ∀ a0 a1 k, LeO (canon_less_int.f k a0 a1) (canon_less_int.f (k + 1) a0 a1) := by
  intro a0 a1 k
  have ih0 := canon_less_int.mono_l k
  unfold canon_less_int.f
  repeat' first
      | (with_reducible exact ih0 _ _ _ _)
      | (with_reducible exact LeO.refl _)
      | (with_reducible exact LeO.none _)
      | (with_reducible refine LeO.ite ?_ ?_)
      | (with_reducible refine LeO.bind ?_ (fun _ => ?_))
      | exact ih0 _ _ _ _
      | exact LeO.none _
      | refine LeO.ite ?_ ?_
      | refine LeO.bind ?_ (fun _ => ?_)
set_option maxHeartbeats 8000000 in
set_option maxRecDepth 100000 in
theorem canon_less_int.calls (k : Nat) (A0 : Option Addr) (c0 : Nat) (l0 : List Int) (A1 : Option Addr) (c1 : Nat) (l1 : List Int) (r : Bool) (w : World) (hr0 : Kd.C (Kd.int .i64) w A0 l0.length l0) (hc0 : l0.length ≤ c0) (hr1 : Kd.C (Kd.int .i64) w A1 l1.length l1) (hc1 : l1.length ≤ c1) (h : canon_less_int.f k l0 l1 = some r) :
    Calls Try.prog 42 #[.slice A0 l0.length c0, .slice A1 l1.length c1] w fun e w' => e = .returned (.bool r) ∧ Drawn0 w w' := by
  have HR0 := Aside0.mk hr0
  have HC0 := Aside0.mk hc0
  clear hr0 hc0
  have HR1 := Aside0.mk hr1
  have HC1 := Aside0.mk hc1
  clear hr1 hc1
  have H : (canon_less_int.l0 k l0 l1 (l0.length : Int) 0) = some r := h
  clear h
  have H' := Aside0.mk H
  clear H
  go_enter Try.func42, Try.ntmps42
  go_wp2
  repeat (go_quiet (fail); try go_wp2)
  go_loopg [8] k (fun kq v8 w' => ∃ (x8_1 : Int), v8 = .int .i64 x8_1 ∧ Aside0 (canon_less_int.l0 kq l0 l1 (l0.length : Int) x8_1 = some r) ∧ Aside0 (kq ≤ k) ∧ Drawn0 w w')
  case atStart => exact ⟨(0), (by first | rfl | (simp; done) | (simp [*]; done)), H', ⟨Nat.le_refl _⟩, by repeat (first | exact Drawn0.refl _ | apply Drawn0.step)⟩
  case round =>
    clear H'
    try clear c1
    try clear p2
    obtain ⟨x8_1, rfl, HA, HK1, ⟨m1, rfl⟩⟩ := hrel
    cases gk with
    | zero => exact absurd HA.out (by simp [canon_less_int.l0])
    | succ k1 =>
      have H := HA.out
      clear HA
      simp only [canon_less_int.l0] at H
      by_cases c3 : x8_1 < (l0.length : Int)
      · rw [if_pos c3] at H
        have c3b0 : decide (x8_1 < (l0.length : Int)) = true := decide_eq_true c3
        clear c3
        by_cases c4 : x8_1 ≥ (l1.length : Int)
        · rw [if_pos c4] at H
          have c4b0 : decide ((l1.length : Int) ≤ x8_1) = true := decide_eq_true c4
          clear c4
          obtain rfl := Option.some.inj H
          go_wp2
          repeat (go_quiet (fail); try go_wp2)
          go_ret
          exact ⟨by first | rfl | (simp; done) | (simp [*]; done), by repeat (first | exact Drawn0.refl _ | apply Drawn0.step)⟩
        · rw [if_neg c4] at H
          have c4b0 : decide ((l1.length : Int) ≤ x8_1) = false := decide_eq_false c4
          clear c4
          by_cases c5 : 0 ≤ x8_1
          · rw [if_pos c5] at H
            have c5b0 : decide (0 ≤ x8_1) = true := decide_eq_true c5
            clear c5
            by_cases c6 : x8_1 < (l0.length : Int)
            · rw [if_pos c6] at H
              have c6b0 : decide (x8_1 < (l0.length : Int)) = true := decide_eq_true c6
              clear c6
              by_cases c7 : x8_1 < (l1.length : Int)
              · rw [if_pos c7] at H
                have c7b0 : decide (x8_1 < (l1.length : Int)) = true := decide_eq_true c7
                clear c7
                by_cases c8 : (rd l0 x8_1) = (rd l1 x8_1)
                · rw [if_pos c8] at H
                  have c8b0 : ((rd l0 x8_1) == (rd l1 x8_1)) = true := beq_iff_eq.mpr c8
                  have c8b1 : ((rd l0 x8_1) != (rd l1 x8_1)) = false := bne_eq_false_iff_eq.mpr c8
                  clear c8
                  have H' := Aside0.mk H
                  clear H
                  have p114 : 0 ≤ (x8_1 : Int) := of_decide_eq_true (by first | (with_reducible assumption) | assumption)
                  have q114 : x8_1 < (l0.length : Int) := of_decide_eq_true (by first | (with_reducible assumption) | assumption)
                  obtain ⟨ad114, e114, hx114_0⟩ := Kd.at_int HR0.out x8_1 p114 q114
                  cases e114
                  replace p114 := eq_true p114
                  replace q114 := eq_true q114
                  have p115 : 0 ≤ (x8_1 : Int) := of_decide_eq_true (by first | (with_reducible assumption) | assumption)
                  have q115 : x8_1 < (l1.length : Int) := of_decide_eq_true (by first | (with_reducible assumption) | assumption)
                  obtain ⟨ad115, e115, hx115_0⟩ := Kd.at_int HR1.out x8_1 p115 q115
                  cases e115
                  replace p115 := eq_true p115
                  replace q115 := eq_true q115
                  go_wp2
                  repeat (go_quiet (fail); try go_wp2)
                  go_roundg k1
                  case measure => have := HK1.out; omega
                  case rel => exact ⟨(wrap64 (x8_1 + 1)), (by first | rfl | (simp; done) | (simp [*]; done)), H', ⟨by have := HK1.out; omega⟩, by repeat (first | exact Drawn0.refl _ | apply Drawn0.step)⟩
                · rw [if_neg c8] at H
                  have c8b0 : ((rd l0 x8_1) == (rd l1 x8_1)) = false := beq_eq_false_iff_ne.mpr c8
                  have c8b1 : ((rd l0 x8_1) != (rd l1 x8_1)) = true := bne_iff_ne.mpr c8
                  obtain rfl := Option.some.inj H
                  have p114 : 0 ≤ (x8_1 : Int) := of_decide_eq_true (by first | (with_reducible assumption) | assumption)
                  have q114 : x8_1 < (l0.length : Int) := of_decide_eq_true (by first | (with_reducible assumption) | assumption)
                  obtain ⟨ad114, e114, hx114_0⟩ := Kd.at_int HR0.out x8_1 p114 q114
                  cases e114
                  replace p114 := eq_true p114
                  replace q114 := eq_true q114
                  have p115 : 0 ≤ (x8_1 : Int) := of_decide_eq_true (by first | (with_reducible assumption) | assumption)
                  have q115 : x8_1 < (l1.length : Int) := of_decide_eq_true (by first | (with_reducible assumption) | assumption)
                  obtain ⟨ad115, e115, hx115_0⟩ := Kd.at_int HR1.out x8_1 p115 q115
                  cases e115
                  replace p115 := eq_true p115
                  replace q115 := eq_true q115
                  have p116 : 0 ≤ (x8_1 : Int) := of_decide_eq_true (by first | (with_reducible assumption) | assumption)
                  have q116 : x8_1 < (l0.length : Int) := of_decide_eq_true (by first | (with_reducible assumption) | assumption)
                  obtain ⟨ad116, e116, hx116_0⟩ := Kd.at_int HR0.out x8_1 p116 q116
                  obtain rfl : ad114 = ad116 := (by injection e116)
                  replace p116 := eq_true p116
                  replace q116 := eq_true q116
                  have p117 : 0 ≤ (x8_1 : Int) := of_decide_eq_true (by first | (with_reducible assumption) | assumption)
                  have q117 : x8_1 < (l1.length : Int) := of_decide_eq_true (by first | (with_reducible assumption) | assumption)
                  obtain ⟨ad117, e117, hx117_0⟩ := Kd.at_int HR1.out x8_1 p117 q117
                  obtain rfl : ad115 = ad117 := (by injection e117)
                  replace p117 := eq_true p117
                  replace q117 := eq_true q117
                  go_wp2
                  repeat (go_quiet (fail); try go_wp2)
                  go_ret
                  exact ⟨by first | rfl | (simp; done) | (simp [*]; done), by repeat (first | exact Drawn0.refl _ | apply Drawn0.step)⟩
              · rw [if_neg c7] at H
                exact absurd H (by simp)
            · rw [if_neg c6] at H
              exact absurd H (by simp)
          · rw [if_neg c5] at H
            exact absurd H (by simp)
      · rw [if_neg c3] at H
        have c3b0 : decide (x8_1 < (l0.length : Int)) = false := decide_eq_false c3
        clear c3
        obtain rfl := Option.some.inj H
        go_wp2
        repeat (go_quiet (fail); try go_wp2)
        go_ret
        exact ⟨by first | rfl | (simp; done) | (simp [*]; done), by repeat (first | exact Drawn0.refl _ | apply Drawn0.step)⟩

end Go.Proofs.Yteeihjpnhjnknaa.GAll
/- DERIVED. Which of two codes is ahead. No program. -/



namespace Go.Proofs.Yteeihjpnhjnknaa.Rot
open Go.RowKit Go.Proofs.YteeihjpnhjnknaaW.PrintWords Go.Proofs.YteeihjpnhjnknaaW.PrintLast Go.Proofs.YteeihjpnhjnknaaW.PrintMore Go.Proofs.Yteeihjpnhjnknaa.GAll Go.Proofs.Yteeihjpnhjnknaa.Mem Go.Proofs.Yteeihjpnhjnknaa.Seen
set_option linter.unusedVariables false
set_option linter.unusedSimpArgs false
/-- place by place -/
def ltB : List Int → List Int → Bool
  | [], [] => false
  | [], _ :: _ => true
  | _ :: _, [] => false
  | a :: x, b :: y => if a = b then ltB x y else decide (a < b)
theorem ltB_self : ∀ x, ltB x x = false
  | [] => rfl
  | a :: x => by unfold ltB; rw [if_pos rfl]; exact ltB_self x
theorem ltB_eq : ∀ x y, ltB x y = false → ltB y x = false → x = y
  | [], [], _, _ => rfl
  | [], _ :: _, h, _ => by simp [ltB] at h
  | _ :: _, [], _, h => by simp [ltB] at h
  | a :: x, b :: y, h1, h2 => by
    unfold ltB at h1 h2
    by_cases e : a = b
    · rw [if_pos e] at h1
      rw [if_pos e.symm] at h2
      rw [e, ltB_eq x y h1 h2]
    · rw [if_neg e] at h1
      rw [if_neg (fun q => e q.symm)] at h2
      have := of_decide_eq_false h1
      have := of_decide_eq_false h2
      omega
theorem ltB_asym : ∀ x y, ltB x y = true → ltB y x = false
  | [], [], h => by simp [ltB] at h
  | [], _ :: _, _ => rfl
  | _ :: _, [], h => by simp [ltB] at h
  | a :: x, b :: y, h => by
    unfold ltB at h ⊢
    by_cases e : a = b
    · rw [if_pos e] at h
      rw [if_pos e.symm]; exact ltB_asym x y h
    · rw [if_neg e] at h
      rw [if_neg (fun q => e q.symm)]
      have := of_decide_eq_true h
      exact decide_eq_false (by omega)
theorem ltB_trans : ∀ x y z, ltB x y = true → ltB y z = true → ltB x z = true
  | [], _, [], h1, h2 => by cases ‹List Int› <;> simp [ltB] at h1 h2
  | [], _, _ :: _, _, _ => rfl
  | _ :: _, [], _, h, _ => by simp [ltB] at h
  | _ :: _, _ :: _, [], _, h => by simp [ltB] at h
  | a :: x, b :: y, c :: z, h1, h2 => by
    unfold ltB at h1 h2 ⊢
    by_cases e1 : a = b
    · subst e1
      rw [if_pos rfl] at h1
      by_cases e2 : a = c
      · rw [if_pos e2] at h2 ⊢; exact ltB_trans x y z h1 h2
      · rw [if_neg e2] at h2 ⊢; exact h2
    · rw [if_neg e1] at h1
      have := of_decide_eq_true h1
      by_cases e2 : b = c
      · subst e2
        rw [if_neg e1]; exact h1
      · rw [if_neg e2] at h2
        have := of_decide_eq_true h2
        rw [if_neg (by omega)]
        exact decide_eq_true (by omega)
theorem ltB_nil (b : List Int) : ltB [] b = decide (0 < b.length) := by
  cases b
  · rfl
  · simp [ltB]
theorem less_ev {a b : List Int} (ha : a.length ≤ 9000000000000000) : Ev (fun k => canon_less_int.f k a b) (ltB a b) := by
  have loop : ∀ (d i : Nat), i + d = a.length → i ≤ b.length → Ev (fun k => canon_less_int.l0 k a b (a.length : Int) (i : Int)) (ltB (a.drop i) (b.drop i)) := by
    intro d
    induction d with
    | zero =>
      intro i hi hb
      rw [List.drop_of_length_le (show a.length ≤ i by omega), ltB_nil, List.length_drop]
      refine Ev.step (f := fun _ => some (decide (0 < b.length - i))) (fun k => ?_) (Ev.now _)
      simp only [canon_less_int.l0]
      rw [if_neg (by omega)]
      congr 1
      rw [decide_eq_decide]
      omega
    | succ d ih =>
      intro i hi hb
      have hx : i < a.length := by omega
      by_cases hy : i < b.length
      · rw [List.drop_eq_getElem_cons hx, List.drop_eq_getElem_cons hy]
        unfold ltB
        by_cases e : a[i] = b[i]
        · rw [if_pos e]
          refine Ev.step (fun k => ?_) (ih (i + 1) (by omega) (by omega))
          simp only [canon_less_int.l0]
          rw [if_pos (by omega), if_neg (by omega), if_pos (by omega), if_pos (by omega), if_pos (by omega), gi_rd, gi_rd, gi_get hx, gi_get hy, if_pos e, w1 (by omega)]
        · rw [if_neg e]
          refine Ev.step (f := fun _ => some (decide (a[i] < b[i]))) (fun k => ?_) (Ev.now _)
          simp only [canon_less_int.l0]
          rw [if_pos (by omega), if_neg (by omega), if_pos (by omega), if_pos (by omega), if_pos (by omega), gi_rd, gi_rd, gi_get hx, gi_get hy, if_neg e]
      · rw [List.drop_eq_getElem_cons hx, List.drop_of_length_le (show b.length ≤ i by omega)]
        refine Ev.step (f := fun _ => some false) (fun k => ?_) (Ev.now _)
        simp only [canon_less_int.l0]
        rw [if_pos (by omega), if_pos (by omega)]
  exact loop a.length 0 (by omega) (by omega)
theorem refless_ev {a b : List Int} (ha : a.length ≤ 9000000000000000) : Ev (fun k => tangramref21_Less.f k a b) (ltB a b) := by
  have loop : ∀ (d i : Nat), i + d = a.length → i ≤ b.length → Ev (fun k => tangramref21_Less.l0 k a b (i : Int)) (ltB (a.drop i) (b.drop i)) := by
    intro d
    induction d with
    | zero =>
      intro i hi hb
      rw [List.drop_of_length_le (show a.length ≤ i by omega), ltB_nil, List.length_drop]
      refine Ev.step (f := fun k => tangramref21_Less.j1 k a b (i : Int) false) (fun k => ?_) (Ev.step (f := fun _ => some (decide (0 < b.length - i))) (fun k => ?_) (Ev.now _))
      · simp only [tangramref21_Less.l0]
        rw [if_neg (by omega)]
      · simp only [tangramref21_Less.j1]
        rw [if_neg (by decide)]
        congr 1
        rw [decide_eq_decide]
        omega
    | succ d ih =>
      intro i hi hb
      have hx : i < a.length := by omega
      refine Ev.step (f := fun k => tangramref21_Less.j1 k a b (i : Int) (decide ((i : Int) < (b.length : Int)))) (fun k => ?_) ?_
      · simp only [tangramref21_Less.l0]
        rw [if_pos (by omega)]
      by_cases hy : i < b.length
      · rw [List.drop_eq_getElem_cons hx, List.drop_eq_getElem_cons hy, decide_eq_true (show (i : Int) < (b.length : Int) by omega)]
        unfold ltB
        by_cases e : a[i] = b[i]
        · rw [if_pos e]
          refine Ev.step (fun k => ?_) (ih (i + 1) (by omega) (by omega))
          simp only [tangramref21_Less.j1]
          rw [if_pos trivial, if_pos (by omega), if_pos (by omega), if_pos (by omega), gi_rd, gi_rd, gi_get hx, gi_get hy, if_pos e, w1 (by omega)]
        · rw [if_neg e]
          refine Ev.step (f := fun _ => some (decide (a[i] < b[i]))) (fun k => ?_) (Ev.now _)
          simp only [tangramref21_Less.j1]
          rw [if_pos trivial, if_pos (by omega), if_pos (by omega), if_pos (by omega), gi_rd, gi_rd, gi_get hx, gi_get hy, if_neg e]
      · rw [List.drop_eq_getElem_cons hx, List.drop_of_length_le (show b.length ≤ i by omega), decide_eq_false (show ¬ (i : Int) < (b.length : Int) by omega)]
        refine Ev.step (f := fun _ => some false) (fun k => ?_) (Ev.now _)
        simp only [tangramref21_Less.j1]
        rw [if_neg (by decide)]
        congr 1
        exact decide_eq_false (by omega)
  exact loop a.length 0 (by omega) (by omega)
end Go.Proofs.Yteeihjpnhjnknaa.Rot
-- Written by a program of this session (wip/tools/printx.py) over the kit's printer and texts of its own; it is no print of print.sh.



namespace Go.Proofs.Yteeihjpnhjnknaa.GAll
open Go.RowKit Go.Proofs.YteeihjpnhjnknaaW.PrintWords Go.Proofs.YteeihjpnhjnknaaW.PrintLast Go.Proofs.YteeihjpnhjnknaaW.PrintMore
attribute [local go_sem] max2_int min2_int max_two min_two max_three min_three max_four min_four   -- for this text's walks alone
set_option linter.unusedVariables false
set_option linter.unusedSimpArgs false

/-! ### canon_plane_best: function 39 -/
def canon_plane_best.l0 : Nat → List Int → List Int → Int → Int → Int → List Int → List Int → Option (List Int × List Int × Int)
  | 0, _, _, _, _, _, _, _ => none
  | k + 1, x5, x6, x7, x8, x119000, x119001, x119002 => if x8 < (x119001.length : Int) then ((canon_plane_code.f k x119000 x119001 x119002 x8).bind fun bt125 => ((canon_less_int.f k bt125.1 x5).bind fun t131 => (if t131 = true then (canon_plane_best.l0 k bt125.1 bt125.2 1 (wrap64 (x8 + 1)) x119000 x119001 x119002) else ((canon_less_int.f k x5 bt125.1).bind fun t132 => (if t132 = true then (canon_plane_best.l0 k x5 x6 x7 (wrap64 (x8 + 1)) x119000 x119001 x119002) else (canon_plane_best.l0 k x5 x6 (wrap64 (x7 + 1)) (wrap64 (x8 + 1)) x119000 x119001 x119002)))))) else (some (x5, x6, x7))
def canon_plane_best.f (k : Nat) (a0_0 : Int) (l0_1 : List Int) (l0_2 : List Int) : Option (List Int × List Int × Int) := (canon_plane_code.f k a0_0 l0_1 l0_2 0).bind fun bt119 => (canon_plane_best.l0 k bt119.1 bt119.2 1 1 a0_0 l0_1 l0_2)
theorem canon_plane_best.mono_l : ∀ k, (∀ y0 y1 y2 y3 y4 y5 y6, LeO (canon_plane_best.l0 k y0 y1 y2 y3 y4 y5 y6) (canon_plane_best.l0 (k + 1) y0 y1 y2 y3 y4 y5 y6))
  | 0 => fun _ _ _ _ _ _ _ r h => by simp [canon_plane_best.l0] at h
  | k + 1 => by
    have ih0 := canon_plane_best.mono_l k
    · intro y0 y1 y2 y3 y4 y5 y6
      unfold canon_plane_best.l0
      repeat' first
      | (with_reducible exact ih0 _ _ _ _ _ _ _)
      | (with_reducible exact canon_less_int.mono _ _ _)
      | (with_reducible exact canon_plane_code.mono _ _ _ _ _)
      | (with_reducible exact LeO.refl _)
      | (with_reducible exact LeO.none _)
      | (with_reducible refine LeO.ite ?_ ?_)
      | (with_reducible refine LeO.bind ?_ (fun _ => ?_))
      | exact ih0 _ _ _ _ _ _ _
      | exact canon_less_int.mono _ _ _
      | exact canon_plane_code.mono _ _ _ _ _
      | exact LeO.none _
      | refine LeO.ite ?_ ?_
      | refine LeO.bind ?_ (fun _ => ?_)
theorem canon_plane_best.mono : ∀ a0 a1 a2 k, LeO (canon_plane_best.f k a0 a1 a2) (canon_plane_best.f (k + 1) a0 a1 a2) := by
  intro a0 a1 a2 k
  have ih0 := canon_plane_best.mono_l k
  unfold canon_plane_best.f
  repeat' first
      | (with_reducible exact ih0 _ _ _ _ _ _ _)
      | (with_reducible exact canon_less_int.mono _ _ _)
      | (with_reducible exact canon_plane_code.mono _ _ _ _ _)
      | (with_reducible exact LeO.refl _)
      | (with_reducible exact LeO.none _)
      | (with_reducible refine LeO.ite ?_ ?_)
      | (with_reducible refine LeO.bind ?_ (fun _ => ?_))
      | exact ih0 _ _ _ _ _ _ _
      | exact canon_less_int.mono _ _ _
      | exact canon_plane_code.mono _ _ _ _ _
      | exact LeO.none _
      | refine LeO.ite ?_ ?_
      | refine LeO.bind ?_ (fun _ => ?_)
set_option maxHeartbeats 8000000 in
set_option maxRecDepth 100000 in
theorem canon_plane_best.calls (k : Nat) (a0_0 : Int) (A0_1 : Option Addr) (c0_1 : Nat) (l0_1 : List Int) (A0_2 : Option Addr) (c0_2 : Nat) (l0_2 : List Int) (r1 : List Int) (r2 : List Int) (r3 : Int) (w : World) (hr0_1 : Kd.C (Kd.int .i64) w A0_1 l0_1.length l0_1) (hc0_1 : l0_1.length ≤ c0_1) (hr0_2 : Kd.C (Kd.int .i64) w A0_2 l0_2.length l0_2) (hc0_2 : l0_2.length ≤ c0_2) (h : canon_plane_best.f k a0_0 l0_1 l0_2 = some (r1, r2, r3)) :
    Calls Try.prog 39 #[.agg #[.int .i64 a0_0, .slice A0_1 l0_1.length c0_1, .slice A0_2 l0_2.length c0_2]] w fun e w' => ∃ v0_ v1_ : Value, e = .returned (.tuple #[v0_, v1_, .int .i64 r3]) ∧ Kd.R (Kd.int .i64) 3 w' w.heap.size (fun k_ => some k_ ≠ (v1_ : Value).ownBlock) v0_ r1 ∧ Kd.R (Kd.int .i64) 3 w' w.heap.size (fun k_ => some k_ ≠ (v0_ : Value).ownBlock) v1_ r2 ∧ Below w.heap.size w w' := by
  have hu69 := Try.underlying69
  have HR0_1 := Aside0.mk hr0_1
  have HC0_1 := Aside0.mk hc0_1
  clear hr0_1 hc0_1
  have HR0_2 := Aside0.mk hr0_2
  have HC0_2 := Aside0.mk hc0_2
  clear hr0_2 hc0_2
  have HB := Aside0.mk (Below.refl w.heap.size w)
  have H : ((canon_plane_code.f k a0_0 l0_1 l0_2 0).bind fun bt119 => (canon_plane_best.l0 k bt119.1 bt119.2 1 1 a0_0 l0_1 l0_2)) = some (r1, r2, r3) := h
  clear h
  replace H := Option.bind_eq_some_iff.mp H
  obtain ⟨⟨t119, t122⟩, A20, H⟩ := H
  replace H : (canon_plane_best.l0 k t119 t122 1 1 a0_0 l0_1 l0_2) = some (r1, r2, r3) := H
  have A2 := Aside0.mk A20
  clear A20
  have H' := Aside0.mk H
  clear H
  go_enter Try.func39, Try.ntmps39
  go_wp2_with (first | ((with_reducible refine gate_dst (N := 1) rfl ?_); refine box_event ?hg (N := 1) ?hd (cs := #[.int .i64 a0_0, .slice A0_1 l0_1.length c0_1, .slice A0_2 l0_2.length c0_2]) (t := 69) ?hr ?_; (case hd => rfl); (case hg => rfl); (case hr => first | (go_simp; done) | (go_simp; rfl)); intro gb118 hg w3 hbox hb; have n0_ := Aside0.mk (below_step (by repeat (first | (with_reducible first | exact HB.out | apply below_alloc | apply pw_below_drewN | apply below_drew1) | exact HB.out)) hb); have n1_ := Aside0.mk (hbox); have n2_ := Aside0.mk ((by rw [hg]; exact (below_size (by repeat (first | (with_reducible first | exact HB.out | apply below_alloc | apply pw_below_drewN | apply below_drew1) | exact HB.out))) : w.heap.size ≤ gb118)); have n3_ := Aside0.mk ((by rw [hg]; exact (below_size (by repeat (first | (with_reducible first | exact HB.out | apply below_alloc | apply pw_below_drewN | apply below_drew1) | exact HB.out))) : w.heap.size ≤ gb118)); clear HB; have HB := n0_; have BK118 := n1_; have GW118 := n2_; have GE118 := n3_; clear n0_ n1_ n2_ n3_; clear hb hbox hg; have hcz4_0 : w3.cell? ⟨gb118, 0, none⟩ = some (.int .i64 a0_0) := (blk_cell BK118.out 0).trans rfl; have hcz4_1 : w3.cell? ⟨gb118, 1, none⟩ = some (.slice A0_1 l0_1.length c0_1) := (blk_cell BK118.out 1).trans rfl; have hcz4_2 : w3.cell? ⟨gb118, 2, none⟩ = some (.slice A0_2 l0_2.length c0_2) := (blk_cell BK118.out 2).trans rfl; have hfz4_0 := blk_frozen BK118.out 0; have hfz4_1 := blk_frozen BK118.out 1; have hfz4_2 := blk_frozen BK118.out 2) | ((with_reducible refine gate_callee (f := 37) rfl ?_); refine goesL_ (some 13) rfl rfl Try.func37 (by kernel_rfl) rfl #[.agg #[.int .i64 a0_0, .slice A0_1 l0_1.length c0_1, .slice A0_2 l0_2.length c0_2], .int .i64 0] rfl (by (try simp only [List.map_toArray, List.map_cons, List.map_nil]); first | done | rfl | (simp only [List.length_drop, List.length_take]; rfl)) ?_; (with_reducible refine (canon_plane_code.calls k a0_0 _ _ l0_1 _ _ l0_2 0 t119 t122 _ ?side1 ?side2 ?side3 ?side4 A2.out).mono ?_); (case side1 => repeat (first | exact (Kd.C_below HR0_1.out HB.out) | (with_reducible refine Kd.C_alloc ?_ _) | (with_reducible refine Kd.C_drewN ?_ _) | (with_reducible refine Kd.C_drew ?_))); (case side2 => exact HC0_1.out); (case side3 => repeat (first | exact (Kd.C_below HR0_2.out HB.out) | (with_reducible refine Kd.C_alloc ?_ _) | (with_reducible refine Kd.C_drewN ?_ _) | (with_reducible refine Kd.C_drew ?_))); (case side4 => exact HC0_2.out); rintro e w5 ⟨v120, v123, rfl, ho0, ho1, hb⟩; refine ⟨_, rfl, ?_⟩; have n0_ := Aside0.mk (Kd.R_lower ho0 (below_size (by repeat (first | (with_reducible first | exact HB.out | apply below_alloc | apply pw_below_drewN | apply below_drew1 | refine below_set ?_ GE118.out) | exact HB.out)))); have n1_ := Aside0.mk (Kd.R_lower ho1 (below_size (by repeat (first | (with_reducible first | exact HB.out | apply below_alloc | apply pw_below_drewN | apply below_drew1 | refine below_set ?_ GE118.out) | exact HB.out)))); have n2_ := Aside0.mk (blk_below (g := gb118) (o := .cells #[.int .i64 a0_0, .slice A0_1 l0_1.length c0_1, .slice A0_2 l0_2.length c0_2] 69 (0, 0)) (by (with_reducible repeat (first | refine blk_drewN ?_ _ | refine blk_drew ?_ | refine blk_alloc ?_ _)); exact BK118.out) hb); have n3_ := Aside0.mk (below_step (by repeat (first | (with_reducible first | exact HB.out | apply below_alloc | apply pw_below_drewN | apply below_drew1 | refine below_set ?_ GE118.out) | exact HB.out)) hb); clear BK118; clear HB; have HO121 := n0_; have HO124 := n1_; have BK118 := n2_; have HB := n3_; clear n0_ n1_ n2_ n3_; (try clear hb); (try clear hb2); (try clear hk); (try clear hi); (try clear ho0); (try clear ho1)))
  go_loopg [5, 6, 7, 8] k (fun kq v5 v6 v7 v8 w' => ∃ (x5_1 : List Int) (x6_1 : List Int) (x7_1 : Int) (x8_1 : Int), v7 = .int .i64 x7_1 ∧ v8 = .int .i64 x8_1 ∧ Aside0 (canon_plane_best.l0 kq x5_1 x6_1 x7_1 x8_1 a0_0 l0_1 l0_2 = some (r1, r2, r3)) ∧ Aside0 (kq ≤ k) ∧ Aside0 (Kd.R (Kd.int .i64) 3 w' w.heap.size (fun k_ => some k_ ≠ (v6 : Value).ownBlock) v5 x5_1) ∧ Aside0 (Kd.R (Kd.int .i64) 3 w' w.heap.size (fun k_ => some k_ ≠ (v5 : Value).ownBlock) v6 x6_1) ∧ Aside0 (w'.heap[gb118]? = some (.cells #[.int .i64 a0_0, (.slice A0_1 l0_1.length c0_1), (.slice A0_2 l0_2.length c0_2)] 69 (0, 0))) ∧ Aside0 (Below w.heap.size w w'))
  case atStart => exact ⟨(t119), (t122), (1), (1), (by first | rfl | (simp; done) | (simp [*]; done)), (by first | rfl | (simp; done) | (simp [*]; done)), H', ⟨Nat.le_refl _⟩, ⟨by (with_reducible repeat (first | apply Kd.R_alloc | apply Kd.R_drewN | apply Kd.R_drew)); exact HO121.out⟩, ⟨by (with_reducible repeat (first | apply Kd.R_alloc | apply Kd.R_drewN | apply Kd.R_drew)); exact HO124.out⟩, ⟨by (with_reducible repeat (first | refine blk_drewN ?_ _ | refine blk_drew ?_ | refine blk_alloc ?_ _)); exact BK118.out⟩, ⟨by repeat (first | (with_reducible first | exact HB.out | apply below_alloc | apply pw_below_drewN | apply below_drew1 | refine below_set ?_ GE118.out) | exact HB.out)⟩⟩
  case round =>
    clear H'
    try clear p2
    try clear c3
    try clear hcz4_0
    try clear hcz4_1
    try clear hcz4_2
    try clear hfz4_0
    try clear hfz4_1
    try clear hfz4_2
    obtain ⟨x5_1, x6_1, x7_1, x8_1, rfl, rfl, HA, HK1, HO_5, HO_6, BK118, HB⟩ := hrel
    cases gk with
    | zero => exact absurd HA.out (by simp [canon_plane_best.l0])
    | succ k1 =>
      have H := HA.out
      clear HA
      simp only [canon_plane_best.l0] at H
      by_cases c6 : x8_1 < (l0_1.length : Int)
      · rw [if_pos c6] at H
        have c6b0 : decide (x8_1 < (l0_1.length : Int)) = true := decide_eq_true c6
        clear c6
        replace H := Option.bind_eq_some_iff.mp H
        obtain ⟨⟨t125, t128⟩, A70, H⟩ := H
        replace H : ((canon_less_int.f k1 t125 x5_1).bind fun t131 => (if t131 = true then (canon_plane_best.l0 k1 t125 t128 1 (wrap64 (x8_1 + 1)) a0_0 l0_1 l0_2) else ((canon_less_int.f k1 x5_1 t125).bind fun t132 => (if t132 = true then (canon_plane_best.l0 k1 x5_1 x6_1 x7_1 (wrap64 (x8_1 + 1)) a0_0 l0_1 l0_2) else (canon_plane_best.l0 k1 x5_1 x6_1 (wrap64 (x7_1 + 1)) (wrap64 (x8_1 + 1)) a0_0 l0_1 l0_2))))) = some (r1, r2, r3) := H
        have A7 := Aside0.mk A70
        clear A70
        replace H := Option.bind_eq_some_iff.mp H
        obtain ⟨t131, A80, H⟩ := H
        replace H : (if t131 = true then (canon_plane_best.l0 k1 t125 t128 1 (wrap64 (x8_1 + 1)) a0_0 l0_1 l0_2) else ((canon_less_int.f k1 x5_1 t125).bind fun t132 => (if t132 = true then (canon_plane_best.l0 k1 x5_1 x6_1 x7_1 (wrap64 (x8_1 + 1)) a0_0 l0_1 l0_2) else (canon_plane_best.l0 k1 x5_1 x6_1 (wrap64 (x7_1 + 1)) (wrap64 (x8_1 + 1)) a0_0 l0_1 l0_2)))) = some (r1, r2, r3) := H
        have A8 := Aside0.mk A80
        clear A80
        by_cases c9 : t131 = true
        · subst c9
          have H1 : (canon_plane_best.l0 k1 t125 t128 1 (wrap64 (x8_1 + 1)) a0_0 l0_1 l0_2) = some (r1, r2, r3) := by rw [if_pos rfl] at H; exact H
          clear H
          have H := H1
          clear H1
          have H' := Aside0.mk H
          clear H
          have hcz10_0 : wr.cell? ⟨gb118, 0, none⟩ = some (.int .i64 a0_0) := (blk_cell BK118.out 0).trans rfl
          have hcz10_1 : wr.cell? ⟨gb118, 1, none⟩ = some (.slice A0_1 l0_1.length c0_1) := (blk_cell BK118.out 1).trans rfl
          have hcz10_2 : wr.cell? ⟨gb118, 2, none⟩ = some (.slice A0_2 l0_2.length c0_2) := (blk_cell BK118.out 2).trans rfl
          have hfz10_0 := blk_frozen BK118.out 0
          have hfz10_1 := blk_frozen BK118.out 1
          have hfz10_2 := blk_frozen BK118.out 2
          go_wp2_with (first | ((with_reducible refine gate_callee (f := 37) rfl ?_); refine goesL_ (some 26) rfl rfl Try.func37 (by kernel_rfl) rfl #[.agg #[.int .i64 a0_0, .slice A0_1 l0_1.length c0_1, .slice A0_2 l0_2.length c0_2], .int .i64 x8_1] rfl (by (try simp only [List.map_toArray, List.map_cons, List.map_nil]); first | done | rfl | (simp only [List.length_drop, List.length_take]; rfl)) ?_; (with_reducible refine (canon_plane_code.calls k1 a0_0 _ _ l0_1 _ _ l0_2 x8_1 t125 t128 _ ?side1 ?side2 ?side3 ?side4 A7.out).mono ?_); (case side1 => repeat (first | exact (Kd.C_below HR0_1.out HB.out) | (with_reducible refine Kd.C_alloc ?_ _) | (with_reducible refine Kd.C_drewN ?_ _) | (with_reducible refine Kd.C_drew ?_))); (case side2 => exact HC0_1.out); (case side3 => repeat (first | exact (Kd.C_below HR0_2.out HB.out) | (with_reducible refine Kd.C_alloc ?_ _) | (with_reducible refine Kd.C_drewN ?_ _) | (with_reducible refine Kd.C_drew ?_))); (case side4 => exact HC0_2.out); rintro e w11 ⟨v126, v129, rfl, ho0, ho1, hb⟩; refine ⟨_, rfl, ?_⟩; have n0_ := Aside0.mk (Kd.R_mono (Kd.R_told (Kd.R_told (Kd.R_old (by (with_reducible repeat (first | apply Kd.R_alloc | apply Kd.R_drewN | apply Kd.R_drew)); exact HO_5.out) hb) (Kd.R_base ho0)) (Kd.R_base ho1)) (fun _ h_ => h_.1)); have n1_ := Aside0.mk (Kd.R_mono (Kd.R_told (Kd.R_told (Kd.R_old (by (with_reducible repeat (first | apply Kd.R_alloc | apply Kd.R_drewN | apply Kd.R_drew)); exact HO_6.out) hb) (Kd.R_base ho0)) (Kd.R_base ho1)) (fun _ h_ => h_.1)); have n2_ := Aside0.mk (Kd.R_lower (Kd.R_new' (Kd.R_new' ho0 (Kd.R_lt (by (with_reducible repeat (first | apply Kd.R_alloc | apply Kd.R_drewN | apply Kd.R_drew)); exact HO_5.out))) (Kd.R_lt (by (with_reducible repeat (first | apply Kd.R_alloc | apply Kd.R_drewN | apply Kd.R_drew)); exact HO_6.out))) (below_size (by repeat (first | (with_reducible first | exact HB.out | apply below_alloc | apply pw_below_drewN | apply below_drew1 | refine below_set ?_ GE118.out) | exact HB.out)))); have n3_ := Aside0.mk (Kd.R_lower (Kd.R_new' (Kd.R_new' ho1 (Kd.R_lt (by (with_reducible repeat (first | apply Kd.R_alloc | apply Kd.R_drewN | apply Kd.R_drew)); exact HO_5.out))) (Kd.R_lt (by (with_reducible repeat (first | apply Kd.R_alloc | apply Kd.R_drewN | apply Kd.R_drew)); exact HO_6.out))) (below_size (by repeat (first | (with_reducible first | exact HB.out | apply below_alloc | apply pw_below_drewN | apply below_drew1 | refine below_set ?_ GE118.out) | exact HB.out)))); have n4_ := Aside0.mk (blk_below (g := gb118) (o := .cells #[.int .i64 a0_0, .slice A0_1 l0_1.length c0_1, .slice A0_2 l0_2.length c0_2] 69 (0, 0)) (by (with_reducible repeat (first | refine blk_drewN ?_ _ | refine blk_drew ?_ | refine blk_alloc ?_ _)); exact BK118.out) hb); have n5_ := Aside0.mk (below_step (by repeat (first | (with_reducible first | exact HB.out | apply below_alloc | apply pw_below_drewN | apply below_drew1 | refine below_set ?_ GE118.out) | exact HB.out)) hb); clear HO_5; clear HO_6; clear BK118; clear HB; have HO_5 := n0_; have HO_6 := n1_; have HO127 := n2_; have HO130 := n3_; have BK118 := n4_; have HB := n5_; clear n0_ n1_ n2_ n3_ n4_ n5_; (try clear hb); (try clear hb2); (try clear hk); (try clear hi); (try clear ho0); (try clear ho1); obtain ⟨Ao12, co12, eo12⟩ := Kd.R_slice HO127.out; subst eo12; obtain ⟨Ao13, co13, eo13⟩ := Kd.R_slice HO_5.out; subst eo13) | ((with_reducible refine gate_callee (f := 42) rfl ?_); refine goesL_ (some 32) rfl rfl Try.func42 (by kernel_rfl) rfl #[.slice Ao12 t125.length co12, .slice Ao13 x5_1.length co13] rfl (by (try simp only [List.map_toArray, List.map_cons, List.map_nil]); first | done | rfl | (simp only [List.length_drop, List.length_take]; rfl)) ?_; (with_reducible refine (canon_less_int.calls k1 _ _ t125 _ _ x5_1 true _ ?side1 ?side2 ?side3 ?side4 A8.out).mono ?_); (case side1 => repeat (first | exact (Kd.R_reads' HO127.out).2.2 | (with_reducible refine Kd.C_alloc ?_ _) | (with_reducible refine Kd.C_drewN ?_ _) | (with_reducible refine Kd.C_drew ?_))); (case side2 => exact (Kd.R_reads' HO127.out).2.1); (case side3 => repeat (first | exact (Kd.R_reads' HO_5.out).2.2 | (with_reducible refine Kd.C_alloc ?_ _) | (with_reducible refine Kd.C_drewN ?_ _) | (with_reducible refine Kd.C_drew ?_))); (case side4 => exact (Kd.R_reads' HO_5.out).2.1); rintro e w' ⟨rfl, ⟨nd, rfl⟩⟩; refine ⟨_, rfl, ?_⟩))
          go_roundg k1
          case measure => have := HK1.out; omega
          case rel => exact ⟨(t125), (t128), (1), (wrap64 (x8_1 + 1)), (by first | rfl | (simp; done) | (simp [*]; done)), (by first | rfl | (simp; done) | (simp [*]; done)), H', ⟨by have := HK1.out; omega⟩, ⟨by (with_reducible repeat (first | apply Kd.R_alloc | apply Kd.R_drewN | apply Kd.R_drew)); exact Kd.R_mono HO127.out (fun _ hk => hk.1.1)⟩, ⟨by (with_reducible repeat (first | apply Kd.R_alloc | apply Kd.R_drewN | apply Kd.R_drew)); exact Kd.R_mono HO130.out (fun _ hk => hk.1.1)⟩, ⟨by (with_reducible repeat (first | refine blk_drewN ?_ _ | refine blk_drew ?_ | refine blk_alloc ?_ _)); exact BK118.out⟩, ⟨by repeat (first | (with_reducible first | exact HB.out | apply below_alloc | apply pw_below_drewN | apply below_drew1 | refine below_set ?_ GE118.out) | exact HB.out)⟩⟩
        · replace c9 := Bool.eq_false_iff.mpr c9
          subst c9
          have H1 : ((canon_less_int.f k1 x5_1 t125).bind fun t132 => (if t132 = true then (canon_plane_best.l0 k1 x5_1 x6_1 x7_1 (wrap64 (x8_1 + 1)) a0_0 l0_1 l0_2) else (canon_plane_best.l0 k1 x5_1 x6_1 (wrap64 (x7_1 + 1)) (wrap64 (x8_1 + 1)) a0_0 l0_1 l0_2))) = some (r1, r2, r3) := by rw [if_neg (show ¬ (false = true) by decide)] at H; exact H
          clear H
          have H := H1
          clear H1
          replace H := Option.bind_eq_some_iff.mp H
          obtain ⟨t132, A140, H⟩ := H
          replace H : (if t132 = true then (canon_plane_best.l0 k1 x5_1 x6_1 x7_1 (wrap64 (x8_1 + 1)) a0_0 l0_1 l0_2) else (canon_plane_best.l0 k1 x5_1 x6_1 (wrap64 (x7_1 + 1)) (wrap64 (x8_1 + 1)) a0_0 l0_1 l0_2)) = some (r1, r2, r3) := H
          have A14 := Aside0.mk A140
          clear A140
          by_cases c15 : t132 = true
          · subst c15
            have H1 : (canon_plane_best.l0 k1 x5_1 x6_1 x7_1 (wrap64 (x8_1 + 1)) a0_0 l0_1 l0_2) = some (r1, r2, r3) := by rw [if_pos rfl] at H; exact H
            clear H
            have H := H1
            clear H1
            have H' := Aside0.mk H
            clear H
            have hcz16_0 : wr.cell? ⟨gb118, 0, none⟩ = some (.int .i64 a0_0) := (blk_cell BK118.out 0).trans rfl
            have hcz16_1 : wr.cell? ⟨gb118, 1, none⟩ = some (.slice A0_1 l0_1.length c0_1) := (blk_cell BK118.out 1).trans rfl
            have hcz16_2 : wr.cell? ⟨gb118, 2, none⟩ = some (.slice A0_2 l0_2.length c0_2) := (blk_cell BK118.out 2).trans rfl
            have hfz16_0 := blk_frozen BK118.out 0
            have hfz16_1 := blk_frozen BK118.out 1
            have hfz16_2 := blk_frozen BK118.out 2
            go_wp2_with (first | ((with_reducible refine gate_callee (f := 37) rfl ?_); refine goesL_ (some 26) rfl rfl Try.func37 (by kernel_rfl) rfl #[.agg #[.int .i64 a0_0, .slice A0_1 l0_1.length c0_1, .slice A0_2 l0_2.length c0_2], .int .i64 x8_1] rfl (by (try simp only [List.map_toArray, List.map_cons, List.map_nil]); first | done | rfl | (simp only [List.length_drop, List.length_take]; rfl)) ?_; (with_reducible refine (canon_plane_code.calls k1 a0_0 _ _ l0_1 _ _ l0_2 x8_1 t125 t128 _ ?side1 ?side2 ?side3 ?side4 A7.out).mono ?_); (case side1 => repeat (first | exact (Kd.C_below HR0_1.out HB.out) | (with_reducible refine Kd.C_alloc ?_ _) | (with_reducible refine Kd.C_drewN ?_ _) | (with_reducible refine Kd.C_drew ?_))); (case side2 => exact HC0_1.out); (case side3 => repeat (first | exact (Kd.C_below HR0_2.out HB.out) | (with_reducible refine Kd.C_alloc ?_ _) | (with_reducible refine Kd.C_drewN ?_ _) | (with_reducible refine Kd.C_drew ?_))); (case side4 => exact HC0_2.out); rintro e w17 ⟨v126, v129, rfl, ho0, ho1, hb⟩; refine ⟨_, rfl, ?_⟩; have n0_ := Aside0.mk (Kd.R_mono (Kd.R_told (Kd.R_told (Kd.R_old (by (with_reducible repeat (first | apply Kd.R_alloc | apply Kd.R_drewN | apply Kd.R_drew)); exact HO_5.out) hb) (Kd.R_base ho0)) (Kd.R_base ho1)) (fun _ h_ => h_.1)); have n1_ := Aside0.mk (Kd.R_mono (Kd.R_told (Kd.R_told (Kd.R_old (by (with_reducible repeat (first | apply Kd.R_alloc | apply Kd.R_drewN | apply Kd.R_drew)); exact HO_6.out) hb) (Kd.R_base ho0)) (Kd.R_base ho1)) (fun _ h_ => h_.1)); have n2_ := Aside0.mk (Kd.R_lower (Kd.R_new' (Kd.R_new' ho0 (Kd.R_lt (by (with_reducible repeat (first | apply Kd.R_alloc | apply Kd.R_drewN | apply Kd.R_drew)); exact HO_5.out))) (Kd.R_lt (by (with_reducible repeat (first | apply Kd.R_alloc | apply Kd.R_drewN | apply Kd.R_drew)); exact HO_6.out))) (below_size (by repeat (first | (with_reducible first | exact HB.out | apply below_alloc | apply pw_below_drewN | apply below_drew1 | refine below_set ?_ GE118.out) | exact HB.out)))); have n3_ := Aside0.mk (Kd.R_lower (Kd.R_new' (Kd.R_new' ho1 (Kd.R_lt (by (with_reducible repeat (first | apply Kd.R_alloc | apply Kd.R_drewN | apply Kd.R_drew)); exact HO_5.out))) (Kd.R_lt (by (with_reducible repeat (first | apply Kd.R_alloc | apply Kd.R_drewN | apply Kd.R_drew)); exact HO_6.out))) (below_size (by repeat (first | (with_reducible first | exact HB.out | apply below_alloc | apply pw_below_drewN | apply below_drew1 | refine below_set ?_ GE118.out) | exact HB.out)))); have n4_ := Aside0.mk (blk_below (g := gb118) (o := .cells #[.int .i64 a0_0, .slice A0_1 l0_1.length c0_1, .slice A0_2 l0_2.length c0_2] 69 (0, 0)) (by (with_reducible repeat (first | refine blk_drewN ?_ _ | refine blk_drew ?_ | refine blk_alloc ?_ _)); exact BK118.out) hb); have n5_ := Aside0.mk (below_step (by repeat (first | (with_reducible first | exact HB.out | apply below_alloc | apply pw_below_drewN | apply below_drew1 | refine below_set ?_ GE118.out) | exact HB.out)) hb); clear HO_5; clear HO_6; clear BK118; clear HB; have HO_5 := n0_; have HO_6 := n1_; have HO127 := n2_; have HO130 := n3_; have BK118 := n4_; have HB := n5_; clear n0_ n1_ n2_ n3_ n4_ n5_; (try clear hb); (try clear hb2); (try clear hk); (try clear hi); (try clear ho0); (try clear ho1); obtain ⟨Ao18, co18, eo18⟩ := Kd.R_slice HO127.out; subst eo18; obtain ⟨Ao19, co19, eo19⟩ := Kd.R_slice HO_5.out; subst eo19) | ((with_reducible refine gate_callee (f := 42) rfl ?_); refine goesL_ (some 32) rfl rfl Try.func42 (by kernel_rfl) rfl #[.slice Ao18 t125.length co18, .slice Ao19 x5_1.length co19] rfl (by (try simp only [List.map_toArray, List.map_cons, List.map_nil]); first | done | rfl | (simp only [List.length_drop, List.length_take]; rfl)) ?_; (with_reducible refine (canon_less_int.calls k1 _ _ t125 _ _ x5_1 false _ ?side1 ?side2 ?side3 ?side4 A8.out).mono ?_); (case side1 => repeat (first | exact (Kd.R_reads' HO127.out).2.2 | (with_reducible refine Kd.C_alloc ?_ _) | (with_reducible refine Kd.C_drewN ?_ _) | (with_reducible refine Kd.C_drew ?_))); (case side2 => exact (Kd.R_reads' HO127.out).2.1); (case side3 => repeat (first | exact (Kd.R_reads' HO_5.out).2.2 | (with_reducible refine Kd.C_alloc ?_ _) | (with_reducible refine Kd.C_drewN ?_ _) | (with_reducible refine Kd.C_drew ?_))); (case side4 => exact (Kd.R_reads' HO_5.out).2.1); rintro e w' ⟨rfl, ⟨nd, rfl⟩⟩; refine ⟨_, rfl, ?_⟩) | ((with_reducible refine gate_callee (f := 42) rfl ?_); refine goesL_ (some 38) rfl rfl Try.func42 (by kernel_rfl) rfl #[.slice Ao19 x5_1.length co19, .slice Ao18 t125.length co18] rfl (by (try simp only [List.map_toArray, List.map_cons, List.map_nil]); first | done | rfl | (simp only [List.length_drop, List.length_take]; rfl)) ?_; (with_reducible refine (canon_less_int.calls k1 _ _ x5_1 _ _ t125 true _ ?side1 ?side2 ?side3 ?side4 A14.out).mono ?_); (case side1 => repeat (first | exact (Kd.R_reads' HO_5.out).2.2 | (with_reducible refine Kd.C_alloc ?_ _) | (with_reducible refine Kd.C_drewN ?_ _) | (with_reducible refine Kd.C_drew ?_))); (case side2 => exact (Kd.R_reads' HO_5.out).2.1); (case side3 => repeat (first | exact (Kd.R_reads' HO127.out).2.2 | (with_reducible refine Kd.C_alloc ?_ _) | (with_reducible refine Kd.C_drewN ?_ _) | (with_reducible refine Kd.C_drew ?_))); (case side4 => exact (Kd.R_reads' HO127.out).2.1); rintro e w' ⟨rfl, ⟨nd, rfl⟩⟩; refine ⟨_, rfl, ?_⟩))
            go_roundg k1
            case measure => have := HK1.out; omega
            case rel => exact ⟨(x5_1), (x6_1), (x7_1), (wrap64 (x8_1 + 1)), (by first | rfl | (simp; done) | (simp [*]; done)), (by first | rfl | (simp; done) | (simp [*]; done)), H', ⟨by have := HK1.out; omega⟩, ⟨by (with_reducible repeat (first | apply Kd.R_alloc | apply Kd.R_drewN | apply Kd.R_drew)); exact Kd.R_mono HO_5.out (fun _ hk => hk.1.1)⟩, ⟨by (with_reducible repeat (first | apply Kd.R_alloc | apply Kd.R_drewN | apply Kd.R_drew)); exact Kd.R_mono HO_6.out (fun _ hk => hk.1.1)⟩, ⟨by (with_reducible repeat (first | refine blk_drewN ?_ _ | refine blk_drew ?_ | refine blk_alloc ?_ _)); exact BK118.out⟩, ⟨by repeat (first | (with_reducible first | exact HB.out | apply below_alloc | apply pw_below_drewN | apply below_drew1 | refine below_set ?_ GE118.out) | exact HB.out)⟩⟩
          · replace c15 := Bool.eq_false_iff.mpr c15
            subst c15
            have H1 : (canon_plane_best.l0 k1 x5_1 x6_1 (wrap64 (x7_1 + 1)) (wrap64 (x8_1 + 1)) a0_0 l0_1 l0_2) = some (r1, r2, r3) := by rw [if_neg (show ¬ (false = true) by decide)] at H; exact H
            clear H
            have H := H1
            clear H1
            have H' := Aside0.mk H
            clear H
            have hcz20_0 : wr.cell? ⟨gb118, 0, none⟩ = some (.int .i64 a0_0) := (blk_cell BK118.out 0).trans rfl
            have hcz20_1 : wr.cell? ⟨gb118, 1, none⟩ = some (.slice A0_1 l0_1.length c0_1) := (blk_cell BK118.out 1).trans rfl
            have hcz20_2 : wr.cell? ⟨gb118, 2, none⟩ = some (.slice A0_2 l0_2.length c0_2) := (blk_cell BK118.out 2).trans rfl
            have hfz20_0 := blk_frozen BK118.out 0
            have hfz20_1 := blk_frozen BK118.out 1
            have hfz20_2 := blk_frozen BK118.out 2
            go_wp2_with (first | ((with_reducible refine gate_callee (f := 37) rfl ?_); refine goesL_ (some 26) rfl rfl Try.func37 (by kernel_rfl) rfl #[.agg #[.int .i64 a0_0, .slice A0_1 l0_1.length c0_1, .slice A0_2 l0_2.length c0_2], .int .i64 x8_1] rfl (by (try simp only [List.map_toArray, List.map_cons, List.map_nil]); first | done | rfl | (simp only [List.length_drop, List.length_take]; rfl)) ?_; (with_reducible refine (canon_plane_code.calls k1 a0_0 _ _ l0_1 _ _ l0_2 x8_1 t125 t128 _ ?side1 ?side2 ?side3 ?side4 A7.out).mono ?_); (case side1 => repeat (first | exact (Kd.C_below HR0_1.out HB.out) | (with_reducible refine Kd.C_alloc ?_ _) | (with_reducible refine Kd.C_drewN ?_ _) | (with_reducible refine Kd.C_drew ?_))); (case side2 => exact HC0_1.out); (case side3 => repeat (first | exact (Kd.C_below HR0_2.out HB.out) | (with_reducible refine Kd.C_alloc ?_ _) | (with_reducible refine Kd.C_drewN ?_ _) | (with_reducible refine Kd.C_drew ?_))); (case side4 => exact HC0_2.out); rintro e w21 ⟨v126, v129, rfl, ho0, ho1, hb⟩; refine ⟨_, rfl, ?_⟩; have n0_ := Aside0.mk (Kd.R_mono (Kd.R_told (Kd.R_told (Kd.R_old (by (with_reducible repeat (first | apply Kd.R_alloc | apply Kd.R_drewN | apply Kd.R_drew)); exact HO_5.out) hb) (Kd.R_base ho0)) (Kd.R_base ho1)) (fun _ h_ => h_.1)); have n1_ := Aside0.mk (Kd.R_mono (Kd.R_told (Kd.R_told (Kd.R_old (by (with_reducible repeat (first | apply Kd.R_alloc | apply Kd.R_drewN | apply Kd.R_drew)); exact HO_6.out) hb) (Kd.R_base ho0)) (Kd.R_base ho1)) (fun _ h_ => h_.1)); have n2_ := Aside0.mk (Kd.R_lower (Kd.R_new' (Kd.R_new' ho0 (Kd.R_lt (by (with_reducible repeat (first | apply Kd.R_alloc | apply Kd.R_drewN | apply Kd.R_drew)); exact HO_5.out))) (Kd.R_lt (by (with_reducible repeat (first | apply Kd.R_alloc | apply Kd.R_drewN | apply Kd.R_drew)); exact HO_6.out))) (below_size (by repeat (first | (with_reducible first | exact HB.out | apply below_alloc | apply pw_below_drewN | apply below_drew1 | refine below_set ?_ GE118.out) | exact HB.out)))); have n3_ := Aside0.mk (Kd.R_lower (Kd.R_new' (Kd.R_new' ho1 (Kd.R_lt (by (with_reducible repeat (first | apply Kd.R_alloc | apply Kd.R_drewN | apply Kd.R_drew)); exact HO_5.out))) (Kd.R_lt (by (with_reducible repeat (first | apply Kd.R_alloc | apply Kd.R_drewN | apply Kd.R_drew)); exact HO_6.out))) (below_size (by repeat (first | (with_reducible first | exact HB.out | apply below_alloc | apply pw_below_drewN | apply below_drew1 | refine below_set ?_ GE118.out) | exact HB.out)))); have n4_ := Aside0.mk (blk_below (g := gb118) (o := .cells #[.int .i64 a0_0, .slice A0_1 l0_1.length c0_1, .slice A0_2 l0_2.length c0_2] 69 (0, 0)) (by (with_reducible repeat (first | refine blk_drewN ?_ _ | refine blk_drew ?_ | refine blk_alloc ?_ _)); exact BK118.out) hb); have n5_ := Aside0.mk (below_step (by repeat (first | (with_reducible first | exact HB.out | apply below_alloc | apply pw_below_drewN | apply below_drew1 | refine below_set ?_ GE118.out) | exact HB.out)) hb); clear HO_5; clear HO_6; clear BK118; clear HB; have HO_5 := n0_; have HO_6 := n1_; have HO127 := n2_; have HO130 := n3_; have BK118 := n4_; have HB := n5_; clear n0_ n1_ n2_ n3_ n4_ n5_; (try clear hb); (try clear hb2); (try clear hk); (try clear hi); (try clear ho0); (try clear ho1); obtain ⟨Ao22, co22, eo22⟩ := Kd.R_slice HO127.out; subst eo22; obtain ⟨Ao23, co23, eo23⟩ := Kd.R_slice HO_5.out; subst eo23) | ((with_reducible refine gate_callee (f := 42) rfl ?_); refine goesL_ (some 32) rfl rfl Try.func42 (by kernel_rfl) rfl #[.slice Ao22 t125.length co22, .slice Ao23 x5_1.length co23] rfl (by (try simp only [List.map_toArray, List.map_cons, List.map_nil]); first | done | rfl | (simp only [List.length_drop, List.length_take]; rfl)) ?_; (with_reducible refine (canon_less_int.calls k1 _ _ t125 _ _ x5_1 false _ ?side1 ?side2 ?side3 ?side4 A8.out).mono ?_); (case side1 => repeat (first | exact (Kd.R_reads' HO127.out).2.2 | (with_reducible refine Kd.C_alloc ?_ _) | (with_reducible refine Kd.C_drewN ?_ _) | (with_reducible refine Kd.C_drew ?_))); (case side2 => exact (Kd.R_reads' HO127.out).2.1); (case side3 => repeat (first | exact (Kd.R_reads' HO_5.out).2.2 | (with_reducible refine Kd.C_alloc ?_ _) | (with_reducible refine Kd.C_drewN ?_ _) | (with_reducible refine Kd.C_drew ?_))); (case side4 => exact (Kd.R_reads' HO_5.out).2.1); rintro e w' ⟨rfl, ⟨nd, rfl⟩⟩; refine ⟨_, rfl, ?_⟩) | ((with_reducible refine gate_callee (f := 42) rfl ?_); refine goesL_ (some 38) rfl rfl Try.func42 (by kernel_rfl) rfl #[.slice Ao23 x5_1.length co23, .slice Ao22 t125.length co22] rfl (by (try simp only [List.map_toArray, List.map_cons, List.map_nil]); first | done | rfl | (simp only [List.length_drop, List.length_take]; rfl)) ?_; (with_reducible refine (canon_less_int.calls k1 _ _ x5_1 _ _ t125 false _ ?side1 ?side2 ?side3 ?side4 A14.out).mono ?_); (case side1 => repeat (first | exact (Kd.R_reads' HO_5.out).2.2 | (with_reducible refine Kd.C_alloc ?_ _) | (with_reducible refine Kd.C_drewN ?_ _) | (with_reducible refine Kd.C_drew ?_))); (case side2 => exact (Kd.R_reads' HO_5.out).2.1); (case side3 => repeat (first | exact (Kd.R_reads' HO127.out).2.2 | (with_reducible refine Kd.C_alloc ?_ _) | (with_reducible refine Kd.C_drewN ?_ _) | (with_reducible refine Kd.C_drew ?_))); (case side4 => exact (Kd.R_reads' HO127.out).2.1); rintro e w' ⟨rfl, ⟨nd, rfl⟩⟩; refine ⟨_, rfl, ?_⟩))
            go_roundg k1
            case measure => have := HK1.out; omega
            case rel => exact ⟨(x5_1), (x6_1), (wrap64 (x7_1 + 1)), (wrap64 (x8_1 + 1)), (by first | rfl | (simp; done) | (simp [*]; done)), (by first | rfl | (simp; done) | (simp [*]; done)), H', ⟨by have := HK1.out; omega⟩, ⟨by (with_reducible repeat (first | apply Kd.R_alloc | apply Kd.R_drewN | apply Kd.R_drew)); exact Kd.R_mono HO_5.out (fun _ hk => hk.1.1)⟩, ⟨by (with_reducible repeat (first | apply Kd.R_alloc | apply Kd.R_drewN | apply Kd.R_drew)); exact Kd.R_mono HO_6.out (fun _ hk => hk.1.1)⟩, ⟨by (with_reducible repeat (first | refine blk_drewN ?_ _ | refine blk_drew ?_ | refine blk_alloc ?_ _)); exact BK118.out⟩, ⟨by repeat (first | (with_reducible first | exact HB.out | apply below_alloc | apply pw_below_drewN | apply below_drew1 | refine below_set ?_ GE118.out) | exact HB.out)⟩⟩
      · rw [if_neg c6] at H
        have c6b0 : decide (x8_1 < (l0_1.length : Int)) = false := decide_eq_false c6
        clear c6
        simp only [Option.some.injEq, Prod.mk.injEq] at H
        obtain ⟨rfl, rfl, rfl⟩ := H
        have hcz24_0 : wr.cell? ⟨gb118, 0, none⟩ = some (.int .i64 a0_0) := (blk_cell BK118.out 0).trans rfl
        have hcz24_1 : wr.cell? ⟨gb118, 1, none⟩ = some (.slice A0_1 l0_1.length c0_1) := (blk_cell BK118.out 1).trans rfl
        have hcz24_2 : wr.cell? ⟨gb118, 2, none⟩ = some (.slice A0_2 l0_2.length c0_2) := (blk_cell BK118.out 2).trans rfl
        have hfz24_0 := blk_frozen BK118.out 0
        have hfz24_1 := blk_frozen BK118.out 1
        have hfz24_2 := blk_frozen BK118.out 2
        go_wp2
        go_ret3
        exact ⟨_, _, by first | rfl | (simp [errW_none, errW_some] <;> rfl) | (simp [*, errW_none, errW_some] <;> rfl), by (with_reducible repeat (first | apply Kd.R_alloc | apply Kd.R_drewN | apply Kd.R_drew)); exact HO_5.out, by (with_reducible repeat (first | apply Kd.R_alloc | apply Kd.R_drewN | apply Kd.R_drew)); exact HO_6.out, by repeat (first | (with_reducible first | exact HB.out | apply below_alloc | apply pw_below_drewN | apply below_drew1 | refine below_set ?_ GE118.out) | exact HB.out)⟩

/-! ### canon.Code: told by hand -/
def canon_Code.f (k : Nat) (a0_0 : Int) (l0_1 : List S89) (l1 : List (List Int)) : Option (List Int × Int) := (canon_one.f k a0_0 l0_1 l1).bind fun t => if t.2.2.2 = 0 then (canon_plane_best.f k t.1 t.2.1 t.2.2.1).bind fun u => some (u.1, 0) else some ([], t.2.2.2)
theorem canon_Code.mono : ∀ a0 a1 a2 k, LeO (canon_Code.f k a0 a1 a2) (canon_Code.f (k + 1) a0 a1 a2) := fun _ _ _ _ =>
  LeO.bind (canon_one.mono _ _ _ _) (fun _ => LeO.ite (LeO.bind (canon_plane_best.mono _ _ _ _) (fun _ => LeO.refl _)) (LeO.refl _))
theorem canon_Code.calls (k : Nat) (a0_0 : Int) (A0_1 : Option Addr) (c0_1 : Nat) (l0_1 : List (S89)) (A1 : Option Addr) (c1 : Nat) (l1 : List (List Int)) (r1 : List Int) (r2 : Int) (w : World) (hr0_1 : Kd.C k89 w A0_1 l0_1.length l0_1) (hc0_1 : l0_1.length ≤ c0_1) (hr1 : Kd.C (Kd.slice 3 (Kd.int .i64)) w A1 l1.length l1) (hc1 : l1.length ≤ c1) (h : canon_Code.f k a0_0 l0_1 l1 = some (r1, r2)) :
    Calls Try.prog 16 #[.agg #[.int .i64 a0_0, .slice A0_1 l0_1.length c0_1], .slice A1 l1.length c1] w fun e w' => ∃ v0_ : Value, e = .returned (.tuple #[v0_, .int .i64 r2]) ∧ Kd.R (Kd.int .i64) 3 w' w.heap.size (fun _ => True) v0_ r1 ∧ Below w.heap.size w w' := by
  obtain ⟨⟨n, nx, tl, e⟩, ht, h⟩ := Option.bind_eq_some_iff.mp h
  simp only at h
  refine One.code_calls a0_0 A0_1 l0_1.length c0_1 _ n nx tl e w (fun W hW => canon_one.calls k a0_0 A0_1 c0_1 l0_1 A1 c1 l1 n nx tl e W (Kd.C_below hr0_1 hW) hc0_1 (Kd.C_below hr1 hW) hc1 ht) (r1, r2) (fun he => ?_) (fun he => ?_)
  · rw [if_neg he] at h
    exact (Option.some.inj h).symm
  · rw [if_pos he] at h
    obtain ⟨⟨cd, od, j⟩, hu, h⟩ := Option.bind_eq_some_iff.mp h
    obtain ⟨rfl, rfl⟩ : cd = r1 ∧ 0 = r2 := by simpa using h
    exact ⟨rfl, j, fun W B1 d1 B2 d2 g1 g2 g3 g4 => (canon_plane_best.calls k n B1 d1 nx B2 d2 tl cd od j W g1 g2 g3 g4 hu).mono fun _ _ ⟨v0, v1, q1, q2, _, q4⟩ => ⟨v0, v1, q1, Kd.R_mono q2 (fun _ _ => trivial), q4⟩⟩

/-! ### canon.Turns: told by hand -/
def canon_Turns.f (k : Nat) (a0_0 : Int) (l0_1 : List S89) (l1 : List (List Int)) : Option (Int × Int) := (canon_one.f k a0_0 l0_1 l1).bind fun t => if t.2.2.2 = 0 then (canon_plane_best.f k t.1 t.2.1 t.2.2.1).bind fun u => some (u.2.2, 0) else some (0, t.2.2.2)
theorem canon_Turns.mono : ∀ a0 a1 a2 k, LeO (canon_Turns.f k a0 a1 a2) (canon_Turns.f (k + 1) a0 a1 a2) := fun _ _ _ _ =>
  LeO.bind (canon_one.mono _ _ _ _) (fun _ => LeO.ite (LeO.bind (canon_plane_best.mono _ _ _ _) (fun _ => LeO.refl _)) (LeO.refl _))
theorem canon_Turns.calls (k : Nat) (a0_0 : Int) (A0_1 : Option Addr) (c0_1 : Nat) (l0_1 : List (S89)) (A1 : Option Addr) (c1 : Nat) (l1 : List (List Int)) (r1 : Int) (r2 : Int) (w : World) (hr0_1 : Kd.C k89 w A0_1 l0_1.length l0_1) (hc0_1 : l0_1.length ≤ c0_1) (hr1 : Kd.C (Kd.slice 3 (Kd.int .i64)) w A1 l1.length l1) (hc1 : l1.length ≤ c1) (h : canon_Turns.f k a0_0 l0_1 l1 = some (r1, r2)) :
    Calls Try.prog 18 #[.agg #[.int .i64 a0_0, .slice A0_1 l0_1.length c0_1], .slice A1 l1.length c1] w fun e w' => e = .returned (.tuple #[.int .i64 r1, .int .i64 r2]) ∧ Below w.heap.size w w' := by
  obtain ⟨⟨n, nx, tl, e⟩, ht, h⟩ := Option.bind_eq_some_iff.mp h
  simp only at h
  refine One.turns_calls a0_0 A0_1 l0_1.length c0_1 _ n nx tl e w (fun W hW => canon_one.calls k a0_0 A0_1 c0_1 l0_1 A1 c1 l1 n nx tl e W (Kd.C_below hr0_1 hW) hc0_1 (Kd.C_below hr1 hW) hc1 ht) (r1, r2) (fun he => ?_) (fun he => ?_)
  · rw [if_neg he] at h
    exact (Option.some.inj h).symm
  · rw [if_pos he] at h
    obtain ⟨⟨cd, od, j⟩, hu, h⟩ := Option.bind_eq_some_iff.mp h
    obtain ⟨rfl, rfl⟩ : j = r1 ∧ 0 = r2 := by simpa using h
    exact ⟨rfl, cd, fun W B1 d1 B2 d2 g1 g2 g3 g4 => (canon_plane_best.calls k n B1 d1 nx B2 d2 tl cd od j W g1 g2 g3 g4 hu).mono fun _ _ ⟨v0, v1, q1, q2, _, q4⟩ => ⟨v0, v1, q1, Kd.R_mono q2 (fun _ _ => trivial), q4⟩⟩

/-! ### canon.Match: told by hand -/
/-- the last part: the renaming, if all is in its bounds -/
def canon_Match.out (n1 : Int) (x y : List Int) : Option (List Int × Bool × Int) :=
  if (decide (0 ≤ n1 ∧ n1 ≤ 1048576 ∧ x.length ≤ y.length ∧ x.length ≤ 1048576) && x.all fun v => decide (0 ≤ v ∧ v < n1)) = true then some (Match.putL x y n1.toNat x.length, true, 0) else none
/-- both maps can be looked at -/
def canon_Match.both (k : Nat) (n1 : Int) (a b : Int × List Int × List Int × Int × Int) : Option (List Int × Bool × Int) :=
  (canon_plane_best.f k a.1 a.2.1 a.2.2.1).bind fun x => (canon_plane_best.f k b.1 b.2.1 b.2.2.1).bind fun y => (canon_less_int.f k x.1 y.1).bind fun s1 =>
    if s1 = true then some ([], false, 0) else (canon_less_int.f k y.1 x.1).bind fun s2 => if s2 = true then some ([], false, 0) else canon_Match.out n1 x.2.1 y.2.1
def canon_Match.f (k : Nat) (a0_0 : Int) (l0_1 : List S89) (l1 : List (List Int)) (a2_0 : Int) (l2_1 : List S89) (l3 : List (List Int)) : Option (List Int × Bool × Int) :=
  (canon_look.f k a0_0 l0_1 l1).bind fun a => (canon_look.f k a2_0 l2_1 l3).bind fun b =>
    if a.2.2.2.1 = 1 ∨ b.2.2.2.1 = 1 then some ([], false, 1) else if Match.firstE [a.2.2.2.1, b.2.2.2.1, a.2.2.2.2, b.2.2.2.2] = 0 then canon_Match.both k a0_0 a b else some ([], false, Match.firstE [a.2.2.2.1, b.2.2.2.1, a.2.2.2.2, b.2.2.2.2])
theorem canon_Match.mono : ∀ a0 a1 a2 a3 a4 a5 k, LeO (canon_Match.f k a0 a1 a2 a3 a4 a5) (canon_Match.f (k + 1) a0 a1 a2 a3 a4 a5) := by
  intro a0 a1 a2 a3 a4 a5 k
  unfold canon_Match.f
  refine LeO.bind (canon_look.mono _ _ _ _) (fun a => LeO.bind (canon_look.mono _ _ _ _) (fun b => LeO.ite (LeO.refl _) (LeO.ite ?_ (LeO.refl _))))
  unfold canon_Match.both
  refine LeO.bind (canon_plane_best.mono _ _ _ _) (fun x => LeO.bind (canon_plane_best.mono _ _ _ _) (fun y => LeO.bind (canon_less_int.mono _ _ _) (fun s => LeO.ite (LeO.refl _) ?_)))
  exact LeO.bind (canon_less_int.mono _ _ _) (fun s => LeO.refl _)
theorem canon_Match.looks {k : Nat} {n : Int} {A : Option Addr} {c : Nat} {l : List S89} {A1 : Option Addr} {c1 : Nat} {r : List (List Int)} {p : Int} {nx tl : List Int} {e a : Int} {w : World} (hr : Kd.C k89 w A l.length l) (hc : l.length ≤ c) (hr1 : Kd.C (Kd.slice 3 (Kd.int .i64)) w A1 r.length r) (hc1 : r.length ≤ c1) (h : canon_look.f k n l r = some (p, nx, tl, e, a)) :
    Match.LookSays #[.int .i64 n, .slice A l.length c] (.slice A1 r.length c1) p nx tl e a w := fun W hW =>
  (canon_look.calls k n A c l A1 c1 r p nx tl e a W (Kd.C_below hr hW) hc (Kd.C_below hr1 hW) hc1 h).mono fun e' w' ⟨v1, v2, h1, h2, h3, h4⟩ => by
    obtain ⟨B1, d1, e1, hd1, hC1⟩ := Kd.R_reads h2
    obtain ⟨B2, d2, e2, hd2, hC2⟩ := Kd.R_reads h3
    exact ⟨v1, v2, h1, ⟨B1, d1, B2, d2, e1, hd1, hC1, e2, hd2, hC2⟩, h4⟩
theorem canon_Match.bests {k : Nat} {n : Int} {nx tl cd od : List Int} {m : Int} (h : canon_plane_best.f k n nx tl = some (cd, od, m)) : Match.BestSays n nx tl cd od m := fun W A1 c1 A2 c2 h1 h2 h3 h4 =>
  (canon_plane_best.calls k n A1 c1 nx A2 c2 tl cd od m W h1 h2 h3 h4 h).mono fun e' w' ⟨v1, v2, h1, h2, h3, h4⟩ => by
    obtain ⟨B1, d1, e1, hd1, hC1⟩ := Kd.R_reads h2
    obtain ⟨B2, d2, e2, hd2, hC2⟩ := Kd.R_reads h3
    exact ⟨v1, v2, h1, ⟨B1, d1, B2, d2, e1, hd1, hC1, e2, hd2, hC2⟩, h4⟩
theorem canon_Match.lesses {k : Nat} {a b : List Int} {r : Bool} (h : canon_less_int.f k a b = some r) : Match.LessSays a b r := fun W A c B d h1 h2 h3 h4 =>
  (canon_less_int.calls k A c a B d b r W h1 h2 h3 h4 h).mono fun e' w' ⟨h1, h2⟩ => ⟨h1, h2.below⟩
set_option maxHeartbeats 1000000 in
theorem canon_Match.calls (k : Nat) (a0_0 : Int) (A0_1 : Option Addr) (c0_1 : Nat) (l0_1 : List (S89)) (A1 : Option Addr) (c1 : Nat) (l1 : List (List Int)) (a2_0 : Int) (A2_1 : Option Addr) (c2_1 : Nat) (l2_1 : List (S89)) (A3 : Option Addr) (c3 : Nat) (l3 : List (List Int)) (r1 : List Int) (r2 : Bool) (r3 : Int) (w : World) (hr0_1 : Kd.C k89 w A0_1 l0_1.length l0_1) (hc0_1 : l0_1.length ≤ c0_1) (hr1 : Kd.C (Kd.slice 3 (Kd.int .i64)) w A1 l1.length l1) (hc1 : l1.length ≤ c1) (hr2_1 : Kd.C k89 w A2_1 l2_1.length l2_1) (hc2_1 : l2_1.length ≤ c2_1) (hr3 : Kd.C (Kd.slice 3 (Kd.int .i64)) w A3 l3.length l3) (hc3 : l3.length ≤ c3) (h : canon_Match.f k a0_0 l0_1 l1 a2_0 l2_1 l3 = some (r1, r2, r3)) :
    Calls Try.prog 20 #[.agg #[.int .i64 a0_0, .slice A0_1 l0_1.length c0_1], .slice A1 l1.length c1, .agg #[.int .i64 a2_0, .slice A2_1 l2_1.length c2_1], .slice A3 l3.length c3] w fun e w' => ∃ v0_ : Value, e = .returned (.tuple #[v0_, .bool r2, .int .i64 r3]) ∧ Kd.R (Kd.int .i64) 3 w' w.heap.size (fun _ => True) v0_ r1 ∧ Below w.heap.size w w' := by
  obtain ⟨⟨p1, nx1, tl1, e1, a1⟩, hl1, h⟩ := Option.bind_eq_some_iff.mp h
  obtain ⟨⟨p2, nx2, tl2, e2, a2⟩, hl2, h⟩ := Option.bind_eq_some_iff.mp h
  simp only at h
  have s1 := canon_Match.looks hr0_1 hc0_1 hr1 hc1 hl1
  have s2 := canon_Match.looks hr2_1 hc2_1 hr3 hc3 hl2
  by_cases c0 : e1 = 1 ∨ e2 = 1
  · rw [if_pos c0] at h
    have hres : (([] : List Int), false, (1 : Int)) = (r1, r2, r3) := by simpa using h
    exact Match.match_calls a0_0 A0_1 l0_1.length c0_1 (.slice A1 l1.length c1) a2_0 A2_1 l2_1.length c2_1 (.slice A3 l3.length c3) p1 nx1 tl1 e1 a1 p2 nx2 tl2 e2 a2 [] [] [] [] 0 0 false false w s1 s2 (r1, r2, r3) (fun _ => hres.symm) (fun q => absurd c0 q) (fun q => absurd c0 q)
  · rw [if_neg c0] at h
    by_cases cf : Match.firstE [e1, e2, a1, a2] = 0
    · rw [if_pos cf] at h
      obtain ⟨⟨cd1, od1, k1⟩, hb1, h⟩ := Option.bind_eq_some_iff.mp h
      obtain ⟨⟨cd2, od2, k2⟩, hb2, h⟩ := Option.bind_eq_some_iff.mp h
      obtain ⟨ls1, hx1, h⟩ := Option.bind_eq_some_iff.mp h
      simp only at hx1 h hb1 hb2
      have key := fun (ls2 : Bool) (q : ls1 = false → Match.LessSays cd2 cd1 ls2) => Match.match_calls a0_0 A0_1 l0_1.length c0_1 (.slice A1 l1.length c1) a2_0 A2_1 l2_1.length c2_1 (.slice A3 l3.length c3) p1 nx1 tl1 e1 a1 p2 nx2 tl2 e2 a2 cd1 od1 cd2 od2 k1 k2 ls1 ls2 w s1 s2 (r1, r2, r3) (fun q => absurd q c0) (fun _ q => absurd cf q)
      cases ls1 with
      | true =>
        rw [if_pos rfl] at h
        have hres : (([] : List Int), false, (0 : Int)) = (r1, r2, r3) := by simpa using h
        exact key false (fun q => by cases q) (fun _ _ => ⟨canon_Match.bests hb1, canon_Match.bests hb2, canon_Match.lesses hx1, (fun q => by cases q), fun _ => hres.symm, (fun q => by cases q), (fun q => by cases q)⟩)
      | false =>
        rw [if_neg (by decide)] at h
        obtain ⟨ls2, hx2, h⟩ := Option.bind_eq_some_iff.mp h
        cases ls2 with
        | true =>
          rw [if_pos rfl] at h
          have hres : (([] : List Int), false, (0 : Int)) = (r1, r2, r3) := by simpa using h
          exact key true (fun _ => canon_Match.lesses hx2) (fun _ _ => ⟨canon_Match.bests hb1, canon_Match.bests hb2, canon_Match.lesses hx1, fun _ => canon_Match.lesses hx2, (fun q => by cases q), fun _ _ => hres.symm, (fun _ q => by cases q)⟩)
        | false =>
          rw [if_neg (by decide)] at h
          unfold canon_Match.out at h
          by_cases ho : (decide (0 ≤ a0_0 ∧ a0_0 ≤ 1048576 ∧ od1.length ≤ od2.length ∧ od1.length ≤ 1048576) && od1.all fun v => decide (0 ≤ v ∧ v < a0_0)) = true
          · rw [if_pos ho] at h
            rw [Bool.and_eq_true, decide_eq_true_eq, List.all_eq_true] at ho
            obtain ⟨⟨g1, g2, g3, g4⟩, g5⟩ := ho
            have hres : (Match.putL od1 od2 a0_0.toNat od1.length, true, (0 : Int)) = (r1, r2, r3) := by simpa using h
            refine key false (fun _ => canon_Match.lesses hx2) (fun _ _ => ⟨canon_Match.bests hb1, canon_Match.bests hb2, canon_Match.lesses hx1, fun _ => canon_Match.lesses hx2, fun q => (by cases q), fun _ q => (by cases q), fun _ _ => ⟨a0_0.toNat, by omega, by omega, g3, g4, fun i hi => ?_, hres.symm⟩⟩)
            have hm : Mem.gi od1 i ∈ od1 := by
              unfold Mem.gi
              rw [List.getD_eq_getElem?_getD, List.getElem?_eq_getElem hi]
              exact List.getElem_mem hi
            have := of_decide_eq_true (g5 _ hm)
            omega
          · rw [if_neg ho] at h; cases h
    · rw [if_neg cf] at h
      have hres : (([] : List Int), false, Match.firstE [e1, e2, a1, a2]) = (r1, r2, r3) := by simpa using h
      exact Match.match_calls a0_0 A0_1 l0_1.length c0_1 (.slice A1 l1.length c1) a2_0 A2_1 l2_1.length c2_1 (.slice A3 l3.length c3) p1 nx1 tl1 e1 a1 p2 nx2 tl2 e2 a2 [] [] [] [] 0 0 false false w s1 s2 (r1, r2, r3) (fun q => absurd q c0) (fun _ _ => hres.symm) (fun _ q => absurd q cf)

end Go.Proofs.Yteeihjpnhjnknaa.GAll
/- DERIVED. The least code: what both texts find. No program. -/



namespace Go.Proofs.Yteeihjpnhjnknaa.Rot
open Go.RowKit Go.Proofs.YteeihjpnhjnknaaW.PrintWords Go.Proofs.YteeihjpnhjnknaaW.PrintLast Go.Proofs.YteeihjpnhjnknaaW.PrintMore Go.Proofs.Yteeihjpnhjnknaa.GAll Go.Proofs.Yteeihjpnhjnknaa.Mem Go.Proofs.Yteeihjpnhjnknaa.Seen
set_option linter.unusedVariables false
set_option linter.unusedSimpArgs false
/-- of the first codes: which is the least, and how many are it -/
def bst (C : Nat → List Int) : Nat → Nat × Nat
  | 0 => (0, 1)
  | j + 1 => if ltB (C (j + 1)) (C (bst C j).1) = true then (j + 1, 1) else if ltB (C (bst C j).1) (C (j + 1)) = true then bst C j else ((bst C j).1, (bst C j).2 + 1)
theorem bst_le (C : Nat → List Int) : ∀ j, (bst C j).1 ≤ j ∧ (bst C j).2 ≤ j + 1
  | 0 => ⟨Nat.le_refl _, Nat.le_refl _⟩
  | j + 1 => by
    have := bst_le C j
    unfold bst
    split
    · exact ⟨Nat.le_refl _, by simp⟩
    · split
      · omega
      · simp only; omega
section
variable {n : Nat} {l : List Ed} {r : List (List Int)}
abbrev codes (n : Nat) (l : List Ed) (r : List (List Int)) (h : Nat) : List Int := (seenOf n l r h).cd
abbrev bestOf (n : Nat) (l : List Ed) (r : List (List Int)) : Nat × Nat := bst (codes n l r) (2 * l.length - 1)
theorem best_loop (h : IsMap n l r) (d : Nat) : ∀ j, j + 1 + d = 2 * l.length → ∀ b c, bst (codes n l r) j = (b, c) →
    Ev (fun k => canon_plane_best.l0 k (codes n l r b) (seenOf n l r b).ord (c : Int) ((j + 1 : Nat) : Int) (n : Int) (nxOf l r) (toOf l)) (codes n l r (bestOf n l r).1, (seenOf n l r (bestOf n l r).1).ord, ((bestOf n l r).2 : Int)) := by
  have hlen := h.len
  have hll := h.good.2.2.1
  induction d with
  | zero =>
    intro j hj b c hb
    have e : bestOf n l r = (b, c) := by rw [← hb]; unfold bestOf; congr 1; omega
    rw [e]
    refine Ev.step (f := fun _ => some _) (fun k => ?_) (Ev.now _)
    simp only [canon_plane_best.l0]
    rw [if_neg (by rw [hlen]; omega)]
  | succ d ih =>
    intro j hj b c hb
    have hle := bst_le (codes n l r) j
    rw [hb] at hle
    simp only at hle
    have hs : bst (codes n l r) (j + 1) = if ltB (codes n l r (j + 1)) (codes n l r b) = true then (j + 1, 1) else if ltB (codes n l r b) (codes n l r (j + 1)) = true then (b, c) else (b, c + 1) := by
      rw [bst, hb]
    have hI := ih (j + 1) (by omega)
    have c1 := code_ev h (root := j + 1) (by omega)
    have l1 := less_ev (a := codes n l r (j + 1)) (b := codes n l r b) (seen_cd h _)
    have l2 := less_ev (a := codes n l r b) (b := codes n l r (j + 1)) (seen_cd h _)
    refine Ev.step (f := fun k => (canon_plane_code.f k (n : Int) (nxOf l r) (toOf l) ((j + 1 : Nat) : Int)).bind fun bt => (canon_less_int.f k bt.1 (codes n l r b)).bind fun t => if t = true then canon_plane_best.l0 k bt.1 bt.2 ((1 : Nat) : Int) ((j + 1 + 1 : Nat) : Int) (n : Int) (nxOf l r) (toOf l) else (canon_less_int.f k (codes n l r b) bt.1).bind fun t2 => if t2 = true then canon_plane_best.l0 k (codes n l r b) (seenOf n l r b).ord (c : Int) ((j + 1 + 1 : Nat) : Int) (n : Int) (nxOf l r) (toOf l) else canon_plane_best.l0 k (codes n l r b) (seenOf n l r b).ord ((c + 1 : Nat) : Int) ((j + 1 + 1 : Nat) : Int) (n : Int) (nxOf l r) (toOf l)) (fun k => ?_) ?_
    · simp only [canon_plane_best.l0]
      rw [if_pos (by rw [hlen]; omega), w1 (i := j + 1) (by omega), w1 (i := c) (by omega)]
      rfl
    · refine Ev.bind c1 (Ev.bind l1 ?_)
      by_cases q1 : ltB (codes n l r (j + 1)) (codes n l r b) = true
      · rw [if_pos q1] at hs
        exact Ev.congr (fun k => if_pos q1) (hI _ _ hs)
      · rw [if_neg q1] at hs
        refine Ev.congr (fun k => if_neg q1) (Ev.bind l2 ?_)
        by_cases q2 : ltB (codes n l r b) (codes n l r (j + 1)) = true
        · rw [if_pos q2] at hs
          exact Ev.congr (fun k => if_pos q2) (hI _ _ hs)
        · rw [if_neg q2] at hs
          exact Ev.congr (fun k => if_neg q2) (hI _ _ hs)
theorem best_ev (h : IsMap n l r) (h0 : 0 < l.length) : Ev (fun k => canon_plane_best.f k (n : Int) (nxOf l r) (toOf l)) (codes n l r (bestOf n l r).1, (seenOf n l r (bestOf n l r).1).ord, ((bestOf n l r).2 : Int)) := by
  unfold canon_plane_best.f
  exact Ev.bind (code_ev h (root := 0) (by omega)) (best_loop h (2 * l.length - 1) 0 (by omega) 0 1 rfl)
theorem refbest_loop (h : IsMap n l r) (hc : Ev (fun k => tangramref11_Check.f k (n : Int) l r) (0, 0)) (d : Nat) : ∀ j, j + 1 + d = 2 * l.length → ∀ b c, bst (codes n l r) j = (b, c) →
    Ev (fun k => tangramref21_Best.l0 k r (codes n l r b) (b : Int) (c : Int) ((j + 1 : Nat) : Int) (n : Int) l) (codes n l r (bestOf n l r).1, ((bestOf n l r).1 : Int), ((bestOf n l r).2 : Int)) := by
  have hll := h.good.2.2.1
  have hw : wrap64 (2 * (l.length : Int)) = ((2 * l.length : Nat) : Int) := by rw [IntWalk.wrap64_in _ (by omega)]; omega
  induction d with
  | zero =>
    intro j hj b c hb
    have e : bestOf n l r = (b, c) := by rw [← hb]; unfold bestOf; congr 1; omega
    rw [e]
    refine Ev.step (f := fun _ => some _) (fun k => ?_) (Ev.now _)
    simp only [tangramref21_Best.l0]
    rw [hw, if_neg (by omega)]
  | succ d ih =>
    intro j hj b c hb
    have hle := bst_le (codes n l r) j
    rw [hb] at hle
    simp only at hle
    have hs : bst (codes n l r) (j + 1) = if ltB (codes n l r (j + 1)) (codes n l r b) = true then (j + 1, 1) else if ltB (codes n l r b) (codes n l r (j + 1)) = true then (b, c) else (b, c + 1) := by
      rw [bst, hb]
    have hI := ih (j + 1) (by omega)
    have c1 := seen_ev h hc (root := j + 1) (by omega)
    have l1 := ints_ev (a := codes n l r (j + 1)) (b := codes n l r b) (seen_cd h _)
    have l2 := refless_ev (a := codes n l r (j + 1)) (b := codes n l r b) (seen_cd h _)
    refine Ev.step (f := fun k => (tangramref21_Seen.f k (n : Int) l r ((j + 1 : Nat) : Int)).bind fun bt => (tangramref03_SameInts.f k bt.1 (codes n l r b)).bind fun t => (tangramref21_Less.f k bt.1 (codes n l r b)).bind fun t2 => if t = true then (if t2 = true then tangramref21_Best.l0 k r bt.1 ((j + 1 : Nat) : Int) ((1 : Nat) : Int) ((j + 1 + 1 : Nat) : Int) (n : Int) l else tangramref21_Best.l0 k r (codes n l r b) (b : Int) ((c + 1 : Nat) : Int) ((j + 1 + 1 : Nat) : Int) (n : Int) l) else (if t2 = true then tangramref21_Best.l0 k r bt.1 ((j + 1 : Nat) : Int) ((1 : Nat) : Int) ((j + 1 + 1 : Nat) : Int) (n : Int) l else tangramref21_Best.l0 k r (codes n l r b) (b : Int) (c : Int) ((j + 1 + 1 : Nat) : Int) (n : Int) l)) (fun k => ?_) ?_
    · simp only [tangramref21_Best.l0]
      rw [hw, if_pos (by omega), w1 (i := j + 1) (by omega), w1 (i := c) (by omega)]
      rfl
    · refine Ev.bind c1 (Ev.bind l1 (Ev.bind l2 ?_))
      by_cases q1 : ltB (codes n l r (j + 1)) (codes n l r b) = true
      · rw [if_pos q1] at hs
        refine Ev.congr (fun k => ?_) (hI _ _ hs)
        by_cases q3 : decide (codes n l r (j + 1) = codes n l r b) = true
        · rw [if_pos q3, if_pos q1]
        · rw [if_neg q3, if_pos q1]
      · rw [if_neg q1] at hs
        by_cases q2 : ltB (codes n l r b) (codes n l r (j + 1)) = true
        · rw [if_pos q2] at hs
          refine Ev.congr (fun k => ?_) (hI _ _ hs)
          rw [if_neg (fun e => by rw [of_decide_eq_true e, ltB_self] at q2; cases q2), if_neg q1]
        · rw [if_neg q2] at hs
          refine Ev.congr (fun k => ?_) (hI _ _ hs)
          rw [if_pos (decide_eq_true (ltB_eq _ _ (by simpa using q1) (by simpa using q2))), if_neg q1]
theorem refbest_ev (h : IsMap n l r) (hc : Ev (fun k => tangramref11_Check.f k (n : Int) l r) (0, 0)) (h0 : 0 < l.length) : Ev (fun k => tangramref21_Best.f k (n : Int) l r) (codes n l r (bestOf n l r).1, ((bestOf n l r).1 : Int), ((bestOf n l r).2 : Int)) := by
  unfold tangramref21_Best.f
  exact Ev.bind (seen_ev h hc (root := 0) (by omega)) (refbest_loop h hc (2 * l.length - 1) 0 (by omega) 0 1 rfl)
end
end Go.Proofs.Yteeihjpnhjnknaa.Rot
/- DERIVED. What came in, opened: a datum that is read tells a value of a kind (the kit's printer's kinds), its numbers in their bounds, its lists no longer than the form's reach. -/







namespace Go.Proofs.Yteeihjpnhjnknaa.Open
open Go.RowKit Go.Proofs.YteeihjpnhjnknaaW.PrintWords Go.Proofs.YteeihjpnhjnknaaW.PrintLast Go.Proofs.YteeihjpnhjnknaaW.PrintMore Go.ChangeShapes Go.WideShapes Go.Deep
set_option linter.unusedVariables false
set_option linter.unusedSimpArgs false

/-- a number of its kind -/
def I64 (n : Int) : Prop := -9223372036854775808 ≤ n ∧ n ≤ 9223372036854775807
/-- every reading of a value of type t tells a value of kind d -/
def Opens {α : Type} (P : Program) (t : TypeId) (d : Kd α) (good : α → Prop) : Prop :=
  ∀ {H : Type} (enc : TypeId × Value → H) (w : World) (fuel : Nat) (cs : List Value) (x : DataW H × List MemPlace),
    DataW.trod enc P w 0 (fun _ => true) true fuel t cs = some x → (x.1.weights P t).all (· ≤ reachBytes) = true → ∃ v, d.K w v cs ∧ good v
section
variable {P : Program} {α β : Type}
theorem opens_int {t : TypeId} (ht : P.underlying t = some (.int .i64)) : Opens P t (Kd.int .i64) I64 := by
  intro H enc w fuel cs x h _
  obtain ⟨n, rfl, _, hw⟩ := DataW.trod_int ht h
  refine ⟨n, rfl, ?_⟩
  have hmin : IntKind.i64.min = -9223372036854775808 := rfl
  have hmax : IntKind.i64.max = 9223372036854775807 := rfl
  simp only [Lit.wf, Bool.and_eq_true, decide_eq_true_eq] at hw
  unfold I64; omega
theorem weightsAll_mem {H : Type} {e : TypeId} {l : List (DataW H)} (h : (DataW.weightsAll P e l).all (· ≤ reachBytes) = true) {d : DataW H} (hd : d ∈ l) : (d.weights P e).all (· ≤ reachBytes) = true := by
  induction l with
  | nil => cases hd
  | cons a l ih =>
    unfold DataW.weightsAll at h
    rw [List.all_append, Bool.and_eq_true] at h
    rcases List.mem_cons.1 hd with rfl | hd
    · exact h.1
    · exact ih h.2 hd
theorem opens_slice {t e : TypeId} {d : Kd α} {good : α → Prop} {B : Nat} (ht : P.underlying t = some (.slice e)) (hc : P.cellsOf e = d.sz) (hB : P.bytesOf e = B) (ho : Opens P e d good) (dflt : α) :
    Opens P t (Kd.slice e d) (fun xs => xs.length * B ≤ 140737488351232 ∧ ∀ x ∈ xs, good x) := by
  intro H enc w fuel cs x h hwt
  rcases open_slice ht h with ⟨rfl, rfl⟩ | ⟨a, len, cap, m, n, D, Pl, rfl, hb, hl, hm, hmm, rfl, hx⟩
  · exact ⟨[], ⟨none, 0, rfl, Nat.le_refl _, rfl, by simp, fun h => absurd h (by simp)⟩, by simp, by simp⟩
  · simp only [if_true] at hmm
    subst hmm
    unfold DataW.weights at hwt
    rw [ht] at hwt
    simp only [List.all_cons, List.all_append, Bool.and_eq_true, decide_eq_true_eq, List.length_map, List.length_range, hB] at hwt
    obtain ⟨hw1, hw2, _⟩ := hwt
    have each : ∀ i, i < len → ∃ v : α × List Value, v.2.length = d.sz ∧ d.K w v.1 v.2 ∧ good v.1 ∧ ∀ k u, v.2[k]? = some u → w.cell? (a.add (i * d.sz + k)) = some u := by
      intro i hi
      obtain ⟨cs', h1, h2⟩ := hx i (by omega)
      rw [hc] at h1
      obtain ⟨_, hlen, hcell⟩ := World.cells?_some h1
      obtain ⟨v, hv, hg⟩ := ho enc w n cs' _ h2 (weightsAll_mem hw2 (List.mem_map.2 ⟨i, List.mem_range.2 hi, rfl⟩))
      refine ⟨(v, cs'), hlen, hv, hg, fun k u hk => ?_⟩
      have hk2 : k < d.sz := by
        have hk3 : k < cs'.length := (List.getElem?_eq_some_iff.1 hk).1
        omega
      have := hcell k hk2
      rw [Go.Deep.add_add] at this
      rw [this]; exact hk
    haveI : Inhabited (α × List Value) := ⟨(dflt, [])⟩
    obtain ⟨q, hq⟩ := choose_lt each
    have hlen : ((List.range len).map fun i => (q i).1).length = len := by simp
    have hget : ∀ j p, ((List.range len).map fun i => (q i).1)[j]? = some p → j < len ∧ p = (q j).1 := by
      intro j p hj
      rw [List.getElem?_map] at hj
      by_cases hjl : j < len
      · rw [List.getElem?_range hjl] at hj
        exact ⟨hjl, by simpa using hj.symm⟩
      · rw [List.getElem?_eq_none (by simp; omega)] at hj; simp at hj
    refine ⟨(List.range len).map fun i => (q i).1, ⟨some a, m, by rw [hlen], by rw [hlen]; exact hl, by rw [hlen], ?_, fun _ => ⟨a, rfl, fun j p hj => ?_⟩⟩, ?_, ?_⟩
    · rw [hlen]; unfold maxLen at hm; omega
    · obtain ⟨hjl, rfl⟩ := hget j p hj
      exact ⟨(q j).2, (hq j hjl).1, (hq j hjl).2.1, (hq j hjl).2.2.2⟩
    · rw [hlen]
      have h5 : len * B ≤ (len + (m - len)) * B := Nat.mul_le_mul_right _ (by omega)
      have h6 : reachBytes = 140737488351232 := rfl
      omega
    · intro v hv
      obtain ⟨i, hi, rfl⟩ := List.mem_map.1 hv
      exact (hq i (List.mem_range.1 hi)).2.2.1
theorem opens_two {t : TypeId} {f0 f1 : Field} {a : Kd α} {b : Kd β} {ga : α → Prop} {gb : β → Prop} (ht : P.underlying t = some (.struct #[f0, f1])) (h0 : Opens P f0.type a ga) (h1 : Opens P f1.type b gb)
    (o0 : f0.offset = 0) (o1 : f1.offset = a.sz) (c0 : P.cellsOf f0.type = a.sz) (c1 : P.cellsOf f1.type = b.sz) (ct : P.cellsOf t = a.sz + b.sz) : Opens P t (Kd.pair a b) (fun x => ga x.1 ∧ gb x.2) := by
  intro H enc w fuel cs x h hwt
  obtain ⟨xs, n, _, rfl, hcl, hxl, hf⟩ := DataW.trod_struct ht h
  match xs, hxl with
  | [y0, y1], _ =>
    have g0 := hf 0 f0 rfl
    have g1 := hf 1 f1 rfl
    rw [o0, c0] at g0
    rw [o1, c1] at g1
    unfold DataW.weights at hwt
    rw [ht] at hwt
    simp only [List.map_cons, List.map_nil, DataW.weightsEach, List.all_append, Bool.and_eq_true] at hwt
    obtain ⟨hw0, hw1, _⟩ := hwt
    rw [List.drop_zero] at g0
    obtain ⟨v0, k0, q0⟩ := h0 enc w n _ y0 g0 hw0
    obtain ⟨v1, k1, q1⟩ := h1 enc w n _ y1 g1 hw1
    refine ⟨(v0, v1), ⟨_, _, ?_, k0, k1⟩, q0, q1⟩
    rw [List.take_of_length_le (l := cs.drop a.sz) (by rw [List.length_drop]; omega), List.take_append_drop]
theorem split_four {γ : Type} (cs : List γ) (a b c d : Nat) (h : cs.length = a + b + c + d) : cs = cs.take a ++ ((cs.drop a).take b ++ ((cs.drop (a + b)).take c ++ (cs.drop (a + b + c)).take d)) := by
  have h1 : (cs.drop (a + b + c)).take d = cs.drop (a + b + c) := List.take_of_length_le (by rw [List.length_drop]; omega)
  have h2 : cs.drop (a + b) = (cs.drop (a + b)).take c ++ cs.drop (a + b + c) := by rw [← List.drop_drop (l := cs) (i := c) (j := a + b), List.take_append_drop]
  have h3 : cs.drop a = (cs.drop a).take b ++ cs.drop (a + b) := by rw [← List.drop_drop (l := cs) (i := b) (j := a), List.take_append_drop]
  rw [h1, ← h2, ← h3, List.take_append_drop]
theorem opens_four {γ δ : Type} {t : TypeId} {f0 f1 f2 f3 : Field} {a : Kd α} {b : Kd β} {c : Kd γ} {d : Kd δ} {ga : α → Prop} {gb : β → Prop} {gc : γ → Prop} {gd : δ → Prop} (ht : P.underlying t = some (.struct #[f0, f1, f2, f3])) (h0 : Opens P f0.type a ga) (h1 : Opens P f1.type b gb) (h2 : Opens P f2.type c gc) (h3 : Opens P f3.type d gd)
    (o0 : f0.offset = 0) (o1 : f1.offset = a.sz) (o2 : f2.offset = a.sz + b.sz) (o3 : f3.offset = a.sz + b.sz + c.sz) (c0 : P.cellsOf f0.type = a.sz) (c1 : P.cellsOf f1.type = b.sz) (c2 : P.cellsOf f2.type = c.sz) (c3 : P.cellsOf f3.type = d.sz) (ct : P.cellsOf t = a.sz + b.sz + c.sz + d.sz) : Opens P t (Kd.pair a (Kd.pair b (Kd.pair c d))) (fun x => ga x.1 ∧ gb x.2.1 ∧ gc x.2.2.1 ∧ gd x.2.2.2) := by
  intro H enc w fuel cs x h hwt
  obtain ⟨xs, n, _, rfl, hcl, hxl, hf⟩ := DataW.trod_struct ht h
  match xs, hxl with
  | [y0, y1, y2, y3], _ =>
    have g0 := hf 0 f0 rfl
    have g1 := hf 1 f1 rfl
    have g2 := hf 2 f2 rfl
    have g3 := hf 3 f3 rfl
    rw [o0, c0] at g0
    rw [o1, c1] at g1
    rw [o2, c2] at g2
    rw [o3, c3] at g3
    unfold DataW.weights at hwt
    rw [ht] at hwt
    simp only [List.map_cons, List.map_nil, DataW.weightsEach, List.all_append, Bool.and_eq_true] at hwt
    obtain ⟨hw0, hw1, hw2, hw3, _⟩ := hwt
    rw [List.drop_zero] at g0
    obtain ⟨v0, k0, q0⟩ := h0 enc w n _ y0 g0 hw0
    obtain ⟨v1, k1, q1⟩ := h1 enc w n _ y1 g1 hw1
    obtain ⟨v2, k2, q2⟩ := h2 enc w n _ y2 g2 hw2
    obtain ⟨v3, k3, q3⟩ := h3 enc w n _ y3 g3 hw3
    refine ⟨(v0, v1, v2, v3), ⟨_, _, ?_, k0, _, _, rfl, k1, _, _, rfl, k2, k3⟩, q0, q1, q2, q3⟩
    exact split_four cs _ _ _ _ (by omega)
theorem opens_iso {t : TypeId} {d : Kd α} {good : α → Prop} {f : β → α} (g : α → β) (hg : ∀ x, f (g x) = x) (h : Opens P t d good) : Opens P t (Kd.iso d f) (fun y => good (f y)) := by
  intro H enc w fuel cs x hx hw
  obtain ⟨v, k, q⟩ := h enc w fuel cs x hx hw
  exact ⟨g v, by show d.K w (f (g v)) cs; rw [hg]; exact k, by show good (f (g v)); rw [hg]; exact q⟩
/-- an argument -/
theorem open_arg {H : Type} {enc : TypeId × Value → H} {w : World} {t : TypeId} {d : Kd α} {good : α → Prop} {v : Value} {dd : DataW H} {ps : List MemPlace} (ho : Opens P t d good) (h : DataW.Trod enc P w 0 (fun _ => true) true t v dd ps)
    (hw : (dd.weights P t).all (· ≤ reachBytes) = true) : ∃ x, d.K w x v.cells.toList ∧ good x := by
  obtain ⟨fuel, hf⟩ := h
  exact ho enc w fuel _ _ hf hw
/-- the weights of the j-th argument -/
theorem weight_at {H : Type} {ts : List TypeId} {ds : List (DataW H)} (h : (DataW.weightsEach P ts ds).all (· ≤ reachBytes) = true) : ∀ {j : Nat} {t : TypeId} {d : DataW H}, ts[j]? = some t → ds[j]? = some d → (d.weights P t).all (· ≤ reachBytes) = true := by
  induction ts generalizing ds with
  | nil => intro j t d ht; simp at ht
  | cons a ts ih =>
    cases ds with
    | nil => intro j t d _ hd; simp at hd
    | cons b ds =>
      unfold DataW.weightsEach at h
      rw [List.all_append, Bool.and_eq_true] at h
      intro j t d ht hd
      cases j with
      | zero =>
        obtain rfl : a = t := by simpa using ht
        obtain rfl : b = d := by simpa using hd
        exact h.1
      | succ j => exact ih h.2 (by simpa using ht) (by simpa using hd)
theorem of_slice {w : World} {e : Nat} {d : Kd α} {xs : List α} {A : Option Addr} {n c : Nat} (h : (Kd.slice e d).K w xs [.slice A n c]) : n = xs.length ∧ xs.length ≤ c ∧ d.C w A xs.length xs := by
  obtain ⟨A', c', he, hl, hc⟩ := h
  simp only [List.cons.injEq, Value.slice.injEq, and_true] at he
  obtain ⟨rfl, rfl, rfl⟩ := he
  exact ⟨rfl, hl, hc⟩
end
end Go.Proofs.Yteeihjpnhjnknaa.Open
-- Written by a program of this session (wip/tools/printx.py) over the kit's printer and texts of its own; it is no print of print.sh.




namespace Go.Proofs.Yteeihjpnhjnknaa.GAll
open Go.RowKit Go.Proofs.YteeihjpnhjnknaaW.PrintWords Go.Proofs.YteeihjpnhjnknaaW.PrintLast Go.Proofs.YteeihjpnhjnknaaW.PrintMore
attribute [local go_sem] max2_int min2_int max_two min_two max_three min_three max_four min_four   -- for this text's walks alone
set_option linter.unusedVariables false
set_option linter.unusedSimpArgs false

/-! ### tangramlaw21_path: function 34 -/
def tangramlaw21_path.f  : Option (Int × (List (S89)) × (List (List Int))) := some (3, (([(⟨0, 1⟩ : S89), (⟨1, 2⟩ : S89)] : List (S89))), (([(([0] : List Int)), (([1, 2] : List Int)), (([3] : List Int))] : List (List Int))))
set_option maxHeartbeats 8000000 in
set_option maxRecDepth 100000 in
theorem tangramlaw21_path.calls  (r1 : Int) (r2 : List (S89)) (r3 : List (List Int)) (w : World) (h : tangramlaw21_path.f  = some (r1, r2, r3)) :
    Calls Try.prog 34 #[] w fun e w' => ∃ v1_ v2_ : Value, e = .returned (.tuple #[.agg #[.int .i64 r1, v1_], v2_]) ∧ Kd.R k89 89 w' w.heap.size (fun k_ => (w.heap.size ≤ k_)) v1_ r2 ∧ Kd.N (Kd.slice 3 (Kd.int .i64)) 32 w' w.heap.size (fun k_ => (w.heap.size ≤ k_) ∧ some k_ ≠ (v1_ : Value).ownBlock) v2_ r3 ∧ Below w.heap.size w w' := by
  have hu24 := Try.underlying24
  have hu89 := Try.underlying89
  have HB := Aside0.mk (Below.refl w.heap.size w)
  have H : (some (3, (([(⟨0, 1⟩ : S89), (⟨1, 2⟩ : S89)] : List (S89))), (([(([0] : List Int)), (([1, 2] : List Int)), (([3] : List Int))] : List (List Int))))) = some (r1, r2, r3) := h
  clear h
  obtain ⟨y134, hy134⟩ : ∃ y_ : List (S89), y_ = (([(⟨0, 1⟩ : S89), (⟨1, 2⟩ : S89)] : List (S89))) := ⟨_, rfl⟩
  replace H : (some (3, y134, (([(([0] : List Int)), (([1, 2] : List Int)), (([3] : List Int))] : List (List Int))))) = some (r1, r2, r3) := by first | (rw [hy134]; with_reducible exact H) | (have H2_ := (Option.bind_some _ _).symm.trans H; rw [hy134]; with_reducible exact H2_) | (have H2_ := (Option.bind_some _ _).symm.trans H; with_reducible exact H2_) | with_reducible exact H | (rw [hy134]; exact H) | exact H
  have Ny134 := Aside0.mk hy134
  clear hy134
  obtain ⟨y137, hy137⟩ : ∃ y_ : List Int, y_ = (([0] : List Int)) := ⟨_, rfl⟩
  replace H : (some (3, y134, (([y137, (([1, 2] : List Int)), (([3] : List Int))] : List (List Int))))) = some (r1, r2, r3) := by first | (rw [hy137]; with_reducible exact H) | (have H2_ := (Option.bind_some _ _).symm.trans H; rw [hy137]; with_reducible exact H2_) | (have H2_ := (Option.bind_some _ _).symm.trans H; with_reducible exact H2_) | with_reducible exact H | (rw [hy137]; exact H) | exact H
  have Ny137 := Aside0.mk hy137
  clear hy137
  obtain ⟨y140, hy140⟩ : ∃ y_ : List Int, y_ = (([1, 2] : List Int)) := ⟨_, rfl⟩
  replace H : (some (3, y134, (([y137, y140, (([3] : List Int))] : List (List Int))))) = some (r1, r2, r3) := by first | (rw [hy140]; with_reducible exact H) | (have H2_ := (Option.bind_some _ _).symm.trans H; rw [hy140]; with_reducible exact H2_) | (have H2_ := (Option.bind_some _ _).symm.trans H; with_reducible exact H2_) | with_reducible exact H | (rw [hy140]; exact H) | exact H
  have Ny140 := Aside0.mk hy140
  clear hy140
  obtain ⟨y143, hy143⟩ : ∃ y_ : List Int, y_ = (([3] : List Int)) := ⟨_, rfl⟩
  replace H : (some (3, y134, (([y137, y140, y143] : List (List Int))))) = some (r1, r2, r3) := by first | (rw [hy143]; with_reducible exact H) | (have H2_ := (Option.bind_some _ _).symm.trans H; rw [hy143]; with_reducible exact H2_) | (have H2_ := (Option.bind_some _ _).symm.trans H; with_reducible exact H2_) | with_reducible exact H | (rw [hy143]; exact H) | exact H
  have Ny143 := Aside0.mk hy143
  clear hy143
  obtain ⟨y146, hy146⟩ : ∃ y_ : List (List Int), y_ = (([y137, y140, y143] : List (List Int))) := ⟨_, rfl⟩
  replace H : (some (3, y134, y146)) = some (r1, r2, r3) := by first | (rw [hy146]; with_reducible exact H) | (have H2_ := (Option.bind_some _ _).symm.trans H; rw [hy146]; with_reducible exact H2_) | (have H2_ := (Option.bind_some _ _).symm.trans H; with_reducible exact H2_) | with_reducible exact H | (rw [hy146]; exact H) | exact H
  have Ny146 := Aside0.mk hy146
  clear hy146
  simp only [Option.some.injEq, Prod.mk.injEq] at H
  obtain ⟨rfl, rfl, rfl⟩ := H
  go_enter Try.func34, Try.ntmps34
  go_wp2_with (first | ((with_reducible refine gate_dst (N := 0) rfl ?_); refine box_event ?hg (N := 0) ?hd (cs := #[.int .i64 0, .slice none 0 0]) (t := 24) ?hr ?_; (case hd => rfl); (case hg => rfl); (case hr => first | (go_simp; done) | (go_simp; rfl)); intro gb133 hg w1 hbox hb; have n0_ := Aside0.mk (below_step (by repeat (first | (with_reducible first | exact HB.out | apply below_alloc | apply pw_below_drewN | apply below_drew1) | exact HB.out)) hb); have n1_ := Aside0.mk (hbox); have n2_ := Aside0.mk ((by rw [hg]; exact (below_size (by repeat (first | (with_reducible first | exact HB.out | apply below_alloc | apply pw_below_drewN | apply below_drew1) | exact HB.out))) : w.heap.size ≤ gb133)); have n3_ := Aside0.mk ((by rw [hg]; exact (below_size (by repeat (first | (with_reducible first | exact HB.out | apply below_alloc | apply pw_below_drewN | apply below_drew1) | exact HB.out))) : w.heap.size ≤ gb133)); clear HB; have HB := n0_; have BK133 := n1_; have GW133 := n2_; have GE133 := n3_; clear n0_ n1_ n2_ n3_; clear hb hbox hg) | ((with_reducible refine gate_dst (N := 4) rfl ?_); refine Kd.R_lit k89 _ 89 ?hg (N := 4) ?hd (xs := ([(⟨0, 1⟩ : S89), (⟨1, 2⟩ : S89)] : List (S89))) (inner := [.int .i64 0, .int .i64 1, .int .i64 1, .int .i64 2]) (ok := fun _ => True) (okp := fun _ => True) ?hr ?hp (fun _ hk => hk) trivial (Below.refl _ _) (Nat.le_refl _) (by simp) ?_; (case hd => rfl); (case hg => rfl); (case hr => first | (go_simp; done) | (go_simp; rfl)); (case hp => exact (Reps.c2 (show Kd.M k89 _ _ _ (⟨0, 1⟩ : S89) [.int .i64 0, .int .i64 1] from (k89_mkM _ _ _ (⟨0, 1⟩ : S89) )) (Reps.c2 (show Kd.M k89 _ _ _ (⟨1, 2⟩ : S89) [.int .i64 1, .int .i64 2] from (k89_mkM _ _ _ (⟨1, 2⟩ : S89) )) (Reps.none _ _)))); intro v135 w2 ho3 hb hg_ hnew_; clear hg_ hnew_; (first | rw [← Ny134.out] at ho3 | (simp only [Int.reduceToNat] at ho3; rw [← Ny134.out] at ho3)); have n0_ := Aside0.mk (Kd.R_lower (Kd.R_newM (M := fun k_ => (w.heap.size ≤ k_)) ho3 (below_size (by repeat (first | (with_reducible first | exact HB.out | apply below_alloc | apply pw_below_drewN | apply below_drew1 | refine below_set ?_ GE133.out) | exact HB.out))) (fun k_ h_ => h_)) (below_size (by repeat (first | (with_reducible first | exact HB.out | apply below_alloc | apply pw_below_drewN | apply below_drew1 | refine below_set ?_ GE133.out) | exact HB.out)))); have n1_ := Aside0.mk (blk_below (g := gb133) (o := .cells #[.int .i64 0, .slice none 0 0] 24 (0, 0)) (by (with_reducible repeat (first | refine blk_drewN ?_ _ | refine blk_drew ?_ | refine blk_alloc ?_ _)); exact BK133.out) hb); have n2_ := Aside0.mk (below_step (by repeat (first | (with_reducible first | exact HB.out | apply below_alloc | apply pw_below_drewN | apply below_drew1 | refine below_set ?_ GE133.out) | exact HB.out)) hb); clear BK133; clear HB; have HO136 := n0_; have BK133 := n1_; have HB := n2_; clear n0_ n1_ n2_; clear hb ho3; obtain ⟨Ao4, co4, eo4⟩ := Kd.R_slice HO136.out; subst eo4) | ((with_reducible refine gate_dst (N := 6) rfl ?_); refine Kd.R_lit (Kd.int .i64) _ 3 ?hg (N := 6) ?hd (xs := ([0] : List Int)) (inner := [.int .i64 0]) (ok := fun _ => True) (okp := fun _ => True) ?hr ?hp (fun _ hk => hk) trivial (Below.refl _ _) (Nat.le_refl _) (by simp) ?_; (case hd => rfl); (case hg => rfl); (case hr => first | (go_simp; done) | (go_simp; rfl)); (case hp => exact (Reps.one (show Kd.M (Kd.int .i64) _ _ _ 0 [.int .i64 0] from rfl) (Reps.none _ _))); intro v138 w5 ho6 hb hg_ hnew_; clear hg_ hnew_; (first | rw [← Ny137.out] at ho6 | (simp only [Int.reduceToNat] at ho6; rw [← Ny137.out] at ho6)); have n0_ := Aside0.mk (Kd.R_below (by (with_reducible repeat (first | apply Kd.R_alloc | apply Kd.R_drewN | apply Kd.R_drew)); exact HO136.out) hb); have n1_ := Aside0.mk (Kd.R_lower (Kd.R_newM (M := fun k_ => (w.heap.size ≤ k_)) ho6 (below_size (by repeat (first | (with_reducible first | exact HB.out | apply below_alloc | apply pw_below_drewN | apply below_drew1 | refine below_set ?_ GE133.out) | exact HB.out))) (fun k_ h_ => h_)) (below_size (by repeat (first | (with_reducible first | exact HB.out | apply below_alloc | apply pw_below_drewN | apply below_drew1 | refine below_set ?_ GE133.out) | exact HB.out)))); have n2_ := Aside0.mk (blk_below (g := gb133) (o := .cells #[.int .i64 0, .slice none 0 0] 24 (0, 0)) (by (with_reducible repeat (first | refine blk_drewN ?_ _ | refine blk_drew ?_ | refine blk_alloc ?_ _)); exact BK133.out) hb); have n3_ := Aside0.mk (below_step (by repeat (first | (with_reducible first | exact HB.out | apply below_alloc | apply pw_below_drewN | apply below_drew1 | refine below_set ?_ GE133.out) | exact HB.out)) hb); clear HO136; clear BK133; clear HB; have HO136 := n0_; have HO139 := n1_; have BK133 := n2_; have HB := n3_; clear n0_ n1_ n2_ n3_; clear hb ho6) | ((with_reducible refine gate_dst (N := 7) rfl ?_); refine Kd.R_lit (Kd.int .i64) _ 3 ?hg (N := 7) ?hd (xs := ([1, 2] : List Int)) (inner := [.int .i64 1, .int .i64 2]) (ok := fun _ => True) (okp := fun _ => True) ?hr ?hp (fun _ hk => hk) trivial (Below.refl _ _) (Nat.le_refl _) (by simp) ?_; (case hd => rfl); (case hg => rfl); (case hr => first | (go_simp; done) | (go_simp; rfl)); (case hp => exact (Reps.one (show Kd.M (Kd.int .i64) _ _ _ 1 [.int .i64 1] from rfl) (Reps.one (show Kd.M (Kd.int .i64) _ _ _ 2 [.int .i64 2] from rfl) (Reps.none _ _)))); intro v141 w7 ho8 hb hg_ hnew_; clear hg_ hnew_; (first | rw [← Ny140.out] at ho8 | (simp only [Int.reduceToNat] at ho8; rw [← Ny140.out] at ho8)); have n0_ := Aside0.mk (Kd.R_below (by (with_reducible repeat (first | apply Kd.R_alloc | apply Kd.R_drewN | apply Kd.R_drew)); exact HO136.out) hb); have n1_ := Aside0.mk (Kd.R_elder' (by (with_reducible repeat (first | apply Kd.R_alloc | apply Kd.R_drewN | apply Kd.R_drew)); exact HO139.out) (Kd.R_base ho8) hb); have n2_ := Aside0.mk (Kd.R_lower (Kd.R_new' (Kd.R_newM (M := fun k_ => (w.heap.size ≤ k_)) ho8 (below_size (by repeat (first | (with_reducible first | exact HB.out | apply below_alloc | apply pw_below_drewN | apply below_drew1 | refine below_set ?_ GE133.out) | exact HB.out))) (fun k_ h_ => h_)) (Kd.R_lt (by (with_reducible repeat (first | apply Kd.R_alloc | apply Kd.R_drewN | apply Kd.R_drew)); exact HO139.out))) (below_size (by repeat (first | (with_reducible first | exact HB.out | apply below_alloc | apply pw_below_drewN | apply below_drew1 | refine below_set ?_ GE133.out) | exact HB.out)))); have n3_ := Aside0.mk (blk_below (g := gb133) (o := .cells #[.int .i64 0, .slice none 0 0] 24 (0, 0)) (by (with_reducible repeat (first | refine blk_drewN ?_ _ | refine blk_drew ?_ | refine blk_alloc ?_ _)); exact BK133.out) hb); have n4_ := Aside0.mk (below_step (by repeat (first | (with_reducible first | exact HB.out | apply below_alloc | apply pw_below_drewN | apply below_drew1 | refine below_set ?_ GE133.out) | exact HB.out)) hb); clear HO136; clear HO139; clear BK133; clear HB; have HO136 := n0_; have HO139 := n1_; have HO142 := n2_; have BK133 := n3_; have HB := n4_; clear n0_ n1_ n2_ n3_ n4_; clear hb ho8) | ((with_reducible refine gate_dst (N := 8) rfl ?_); refine Kd.R_lit (Kd.int .i64) _ 3 ?hg (N := 8) ?hd (xs := ([3] : List Int)) (inner := [.int .i64 3]) (ok := fun _ => True) (okp := fun _ => True) ?hr ?hp (fun _ hk => hk) trivial (Below.refl _ _) (Nat.le_refl _) (by simp) ?_; (case hd => rfl); (case hg => rfl); (case hr => first | (go_simp; done) | (go_simp; rfl)); (case hp => exact (Reps.one (show Kd.M (Kd.int .i64) _ _ _ 3 [.int .i64 3] from rfl) (Reps.none _ _))); intro v144 w9 ho10 hb hg_ hnew_; clear hg_ hnew_; (first | rw [← Ny143.out] at ho10 | (simp only [Int.reduceToNat] at ho10; rw [← Ny143.out] at ho10)); have n0_ := Aside0.mk (Kd.R_below (by (with_reducible repeat (first | apply Kd.R_alloc | apply Kd.R_drewN | apply Kd.R_drew)); exact HO136.out) hb); have n1_ := Aside0.mk (Kd.R_elder' (by (with_reducible repeat (first | apply Kd.R_alloc | apply Kd.R_drewN | apply Kd.R_drew)); exact HO139.out) (Kd.R_base ho10) hb); have n2_ := Aside0.mk (Kd.R_elder' (by (with_reducible repeat (first | apply Kd.R_alloc | apply Kd.R_drewN | apply Kd.R_drew)); exact HO142.out) (Kd.R_base ho10) hb); have n3_ := Aside0.mk (Kd.R_lower (Kd.R_new' (Kd.R_new' (Kd.R_newM (M := fun k_ => (w.heap.size ≤ k_)) ho10 (below_size (by repeat (first | (with_reducible first | exact HB.out | apply below_alloc | apply pw_below_drewN | apply below_drew1 | refine below_set ?_ GE133.out) | exact HB.out))) (fun k_ h_ => h_)) (Kd.R_lt (by (with_reducible repeat (first | apply Kd.R_alloc | apply Kd.R_drewN | apply Kd.R_drew)); exact HO139.out))) (Kd.R_lt (by (with_reducible repeat (first | apply Kd.R_alloc | apply Kd.R_drewN | apply Kd.R_drew)); exact HO142.out))) (below_size (by repeat (first | (with_reducible first | exact HB.out | apply below_alloc | apply pw_below_drewN | apply below_drew1 | refine below_set ?_ GE133.out) | exact HB.out)))); have n4_ := Aside0.mk (blk_below (g := gb133) (o := .cells #[.int .i64 0, .slice none 0 0] 24 (0, 0)) (by (with_reducible repeat (first | refine blk_drewN ?_ _ | refine blk_drew ?_ | refine blk_alloc ?_ _)); exact BK133.out) hb); have n5_ := Aside0.mk (below_step (by repeat (first | (with_reducible first | exact HB.out | apply below_alloc | apply pw_below_drewN | apply below_drew1 | refine below_set ?_ GE133.out) | exact HB.out)) hb); clear HO136; clear HO139; clear HO142; clear BK133; clear HB; have HO136 := n0_; have HO139 := n1_; have HO142 := n2_; have HO145 := n3_; have BK133 := n4_; have HB := n5_; clear n0_ n1_ n2_ n3_ n4_ n5_; clear hb ho10; obtain ⟨Ao11, co11, eo11⟩ := Kd.R_slice HO139.out; subst eo11; obtain ⟨Ao12, co12, eo12⟩ := Kd.R_slice HO142.out; subst eo12; obtain ⟨Ao13, co13, eo13⟩ := Kd.R_slice HO145.out; subst eo13) | ((with_reducible refine gate_dst (N := 9) rfl ?_); refine Kd.N_lit (Kd.slice 3 (Kd.int .i64)) _ 32 ?hg (N' := 9) ?hd (xs := ([y137, y140, y143] : List (List Int))) (inner := [.slice Ao11 y137.length co11, .slice Ao12 y140.length co12, .slice Ao13 y143.length co13]) (ok := (fun k_ => (w.heap.size ≤ k_) ∧ some k_ ≠ (.slice Ao4 y134.length co4 : Value).ownBlock ∧ k_ ≠ gb133)) (okp := (fun k_ => (w.heap.size ≤ k_) ∧ some k_ ≠ (.slice Ao4 y134.length co4 : Value).ownBlock ∧ k_ ≠ gb133)) ?hr ?hp (fun _ hk => hk) ((show ∀ k_, w9.heap.size ≤ k_ → (fun k_ => (w.heap.size ≤ k_) ∧ some k_ ≠ (.slice Ao4 y134.length co4 : Value).ownBlock ∧ k_ ≠ gb133) k_ from fun k_ hk => ⟨(Nat.le_trans (below_size (by repeat (first | (with_reducible first | exact HB.out | apply below_alloc | apply pw_below_drewN | apply below_drew1 | refine below_set ?_ GE133.out) | exact HB.out))) hk), Kd.fresh' (Kd.R_lt (by (with_reducible repeat (first | apply Kd.R_alloc | apply Kd.R_drewN | apply Kd.R_drew)); exact HO136.out)) k_ hk, Kd.freshB (g := gb133) (o := .cells #[.int .i64 0, .slice none 0 0] 24 (0, 0)) (by (with_reducible repeat (first | refine blk_drewN ?_ _ | refine blk_drew ?_ | refine blk_alloc ?_ _)); exact BK133.out) k_ hk⟩) _ (Nat.le_refl _)) (Below.refl _ _) (Nat.le_refl _) (by simp) ?_; (case hd => rfl); (case hg => rfl); (case hr => first | (go_simp; done) | (go_simp; rfl)); (case hp => exact (Reps.one (show Kd.FK (Kd.slice 3 (Kd.int .i64)) _ _ y137 [.slice Ao11 y137.length co11] from (Kd.FK_slice_mk (Kd.R_reads' (Kd.R_mono (ok' := (fun k_ => (w.heap.size ≤ k_) ∧ some k_ ≠ (.slice Ao4 y134.length co4 : Value).ownBlock ∧ k_ ≠ gb133)) (Kd.R_types (Kd.R_apart' (HO139.out) (Kd.R_typed HO136.out) (by decide)) BK133.out (by decide)) (fun k_ hk => ⟨hk.1.1.1.1.1, ⟨hk.1.2, hk.2⟩⟩))).2.1 (Kd.R_F (Kd.R_mono (ok' := (fun k_ => (w.heap.size ≤ k_) ∧ some k_ ≠ (.slice Ao4 y134.length co4 : Value).ownBlock ∧ k_ ≠ gb133)) (Kd.R_types (Kd.R_apart' (HO139.out) (Kd.R_typed HO136.out) (by decide)) BK133.out (by decide)) (fun k_ hk => ⟨hk.1.1.1.1.1, ⟨hk.1.2, hk.2⟩⟩))))) (Reps.one (show Kd.FK (Kd.slice 3 (Kd.int .i64)) _ _ y140 [.slice Ao12 y140.length co12] from (Kd.FK_slice_mk (Kd.R_reads' (Kd.R_mono (ok' := (fun k_ => (w.heap.size ≤ k_) ∧ some k_ ≠ (.slice Ao4 y134.length co4 : Value).ownBlock ∧ k_ ≠ gb133)) (Kd.R_types (Kd.R_apart' (HO142.out) (Kd.R_typed HO136.out) (by decide)) BK133.out (by decide)) (fun k_ hk => ⟨hk.1.1.1.1.1, ⟨hk.1.2, hk.2⟩⟩))).2.1 (Kd.R_F (Kd.R_mono (ok' := (fun k_ => (w.heap.size ≤ k_) ∧ some k_ ≠ (.slice Ao4 y134.length co4 : Value).ownBlock ∧ k_ ≠ gb133)) (Kd.R_types (Kd.R_apart' (HO142.out) (Kd.R_typed HO136.out) (by decide)) BK133.out (by decide)) (fun k_ hk => ⟨hk.1.1.1.1.1, ⟨hk.1.2, hk.2⟩⟩))))) (Reps.one (show Kd.FK (Kd.slice 3 (Kd.int .i64)) _ _ y143 [.slice Ao13 y143.length co13] from (Kd.FK_slice_mk (Kd.R_reads' (Kd.R_mono (ok' := (fun k_ => (w.heap.size ≤ k_) ∧ some k_ ≠ (.slice Ao4 y134.length co4 : Value).ownBlock ∧ k_ ≠ gb133)) (Kd.R_types (Kd.R_apart' (HO145.out) (Kd.R_typed HO136.out) (by decide)) BK133.out (by decide)) (fun k_ hk => ⟨hk.1.1.1.1.1, ⟨hk.1.2, hk.2⟩⟩))).2.1 (Kd.R_F (Kd.R_mono (ok' := (fun k_ => (w.heap.size ≤ k_) ∧ some k_ ≠ (.slice Ao4 y134.length co4 : Value).ownBlock ∧ k_ ≠ gb133)) (Kd.R_types (Kd.R_apart' (HO145.out) (Kd.R_typed HO136.out) (by decide)) BK133.out (by decide)) (fun k_ hk => ⟨hk.1.1.1.1.1, ⟨hk.1.2, hk.2⟩⟩))))) (Reps.none _ _))))); intro v147 w14 ho15 hb hg_ hnew_; clear hg_ hnew_; (first | rw [← Ny146.out] at ho15 | (simp only [Int.reduceToNat] at ho15; rw [← Ny146.out] at ho15)); have n0_ := Aside0.mk (Kd.R_below (by (with_reducible repeat (first | apply Kd.R_alloc | apply Kd.R_drewN | apply Kd.R_drew)); exact HO136.out) hb); have n1_ := Aside0.mk (Kd.N_lower ho15 (below_size (by repeat (first | (with_reducible first | exact HB.out | apply below_alloc | apply pw_below_drewN | apply below_drew1 | refine below_set ?_ GE133.out) | exact HB.out)))); have n2_ := Aside0.mk (blk_below (g := gb133) (o := .cells #[.int .i64 0, .slice none 0 0] 24 (0, 0)) (by (with_reducible repeat (first | refine blk_drewN ?_ _ | refine blk_drew ?_ | refine blk_alloc ?_ _)); exact BK133.out) hb); have n3_ := Aside0.mk (below_step (by repeat (first | (with_reducible first | exact HB.out | apply below_alloc | apply pw_below_drewN | apply below_drew1 | refine below_set ?_ GE133.out) | exact HB.out)) hb); clear HO136; clear BK133; clear HB; clear HO139; clear HO142; clear HO145; have HO136 := n0_; have HO148 := n1_; have BK133 := n2_; have HB := n3_; clear n0_ n1_ n2_ n3_; clear hb ho15; have hcz16_0 : w14.cell? ⟨gb133, 0, none⟩ = some (.int .i64 0) := (blk_cell BK133.out 0).trans rfl; have hcz16_1 : w14.cell? ⟨gb133, 1, none⟩ = some (.slice none 0 0) := (blk_cell BK133.out 1).trans rfl; have hfz16_0 := blk_frozen BK133.out 0; have hfz16_1 := blk_frozen BK133.out 1))
  refine bodyPost_ret (results_ct rfl _ _ gb133 24 #[.int .i64 3, .slice Ao4 y134.length co4] (0, 0) _ rfl (by (with_reducible repeat (first | refine blk_drewN ?_ _ | refine blk_drew ?_ | refine blk_alloc ?_ _)); refine blk_put (cs := #[.int .i64 3, .slice none 0 0]) ?_ 1 _ rfl; (with_reducible repeat (first | refine blk_drewN ?_ _ | refine blk_drew ?_ | refine blk_alloc ?_ _)); refine blk_put (cs := #[.int .i64 0, .slice none 0 0]) ?_ 0 _ rfl; (with_reducible repeat (first | refine blk_drewN ?_ _ | refine blk_drew ?_ | refine blk_alloc ?_ _)); exact BK133.out) Try.underlying24 rfl (by kernel_rfl)) rfl ?_
  exact ⟨_, _, by first | rfl | (simp [errW_none, errW_some] <;> rfl) | (simp [*, errW_none, errW_some] <;> rfl), by (with_reducible repeat (first | apply Kd.R_alloc | apply Kd.R_drewN | apply Kd.R_drew)); exact Kd.R_mono (Kd.R_far (p := ⟨gb133, 1, none⟩) (Kd.R_far (p := ⟨gb133, 0, none⟩) (Kd.R_types HO136.out BK133.out (by decide)) (fun _ hk => hk.2) (.int .i64 3)) (fun _ hk => hk.2) (.slice Ao4 y134.length co4)) (fun _ hk => hk.1.1), by (with_reducible repeat (first | apply Kd.N_alloc | apply Kd.N_drewN | apply Kd.N_drew)); exact Kd.N_mono (Kd.N_far (p := ⟨gb133, 1, none⟩) (Kd.N_far (p := ⟨gb133, 0, none⟩) (Kd.N_mono HO148.out (fun k_ hk => (⟨hk, hk.2.2⟩ : _ ∧ k_ ≠ gb133))) (fun _ hk => hk.2) (.int .i64 3)) (fun _ hk => hk.2) (.slice Ao4 y134.length co4)) (fun _ hk => ⟨hk.1.1, hk.1.2.1⟩), by repeat (first | (with_reducible first | exact HB.out | apply below_alloc | apply pw_below_drewN | apply below_drew1 | refine below_set ?_ GE133.out) | exact HB.out)⟩

/-! ### the law's fixed examples: told by hand -/
def tangramlaw21_wakes.r : List (List Int) := [[0], [1, 2], [3]]
def tangramlaw21_wakes.es : List S89 := [⟨0, 1⟩, ⟨1, 2⟩]
set_option maxRecDepth 100000 in
theorem tangramlaw21_wakes.c0 : tangramlaw21_path.f = some (3, tangramlaw21_wakes.es, tangramlaw21_wakes.r) := by kernel_rfl
set_option maxRecDepth 100000 in
theorem tangramlaw21_wakes.c1 : canon_Code.f 40 3 tangramlaw21_wakes.es tangramlaw21_wakes.r = some ([1, 1, 2, 0, 2, 1, 1], 0) := by kernel_rfl
set_option maxRecDepth 100000 in
theorem tangramlaw21_wakes.c2 : canon_Rooted.f 40 3 tangramlaw21_wakes.es tangramlaw21_wakes.r 1 = some ([2, 1, 2, 1, 0, 1, 0], 0) := by kernel_rfl
set_option maxRecDepth 100000 in
theorem tangramlaw21_wakes.c3 : canon_Turns.f 40 3 tangramlaw21_wakes.es tangramlaw21_wakes.r = some (2, 0) := by kernel_rfl
set_option maxRecDepth 100000 in
theorem tangramlaw21_wakes.c4 : canon_Match.f 40 3 tangramlaw21_wakes.es tangramlaw21_wakes.r 3 tangramlaw21_wakes.es tangramlaw21_wakes.r = some ([0, 1, 2], true, 0) := by kernel_rfl
set_option maxRecDepth 100000 in
theorem tangramlaw21_wakes.c5 : canon_Code.f 40 1 [] [[]] = some ([], 210) := by kernel_rfl
theorem tangramlaw21_wakes.s1 : tangramref03_SameInts.f 40 [1, 1, 2, 0, 2, 1, 1] [1, 1, 2, 0, 2, 1, 1] = some true := by kernel_rfl
theorem tangramlaw21_wakes.s2 : tangramref03_SameInts.f 40 [2, 1, 2, 1, 0, 1, 0] [2, 1, 2, 1, 0, 1, 0] = some true := by kernel_rfl
theorem tangramlaw21_wakes.s3 : tangramref03_SameInts.f 40 [0, 1, 2] [0, 1, 2] = some true := by kernel_rfl
def tangramlaw21_wakes.f : Option Bool := some true
set_option maxHeartbeats 4000000 in
set_option maxRecDepth 100000 in
theorem tangramlaw21_wakes.calls (r : Bool) (w : World) (h : tangramlaw21_wakes.f = some r) :
    Calls Try.prog 11 #[] w fun e w' => e = .returned (.bool r) ∧ Below w.heap.size w w' := by
  obtain rfl : true = r := by simpa [tangramlaw21_wakes.f] using h
  clear h
  go_enter Try.func11, Try.ntmps11
  go_wp2_with fail
  refine (tangramlaw21_path.calls _ _ _ w tangramlaw21_wakes.c0).mono ?_
  rintro e w1 ⟨v1, v2, rfl, hR, hN, hb⟩
  have HB1 := Aside0.mk hb
  obtain ⟨A, c, rfl, hc, hC⟩ := Kd.R_reads hR
  obtain ⟨A1, c1, rfl, hc1, hC1⟩ := Kd.N_reads hN
  have HC1 := Aside0.mk hC
  have HL := Aside0.mk hc
  have HD1 := Aside0.mk hC1
  have HL1 := Aside0.mk hc1
  clear hb hR hN hC hC1 hc hc1
  have HX1 : Aside0 ((w1.alloc (.cells #[.int .i64 3, .slice A tangramlaw21_wakes.es.length c] 24 (0, 0))).heap[w1.heap.size]? = some (.cells #[.int .i64 3, .slice A tangramlaw21_wakes.es.length c] 24 (0, 0))) := ⟨Mem.heap_last w1 _⟩
  have hb : Below w1.heap.size w1 (w1.alloc (.cells #[.int .i64 3, .slice A tangramlaw21_wakes.es.length c] 24 (0, 0))) := (Below.refl _ _).alloc (Nat.le_refl _) _
  have HB2 := Aside0.mk (HB1.out.trans (hb.mono HB1.out.size))
  have HC2 := Aside0.mk (Kd.C_below HC1.out hb)
  have HD2 := Aside0.mk (Kd.C_below HD1.out hb)
  have x0 : (w1.alloc (.cells #[.int .i64 3, .slice A tangramlaw21_wakes.es.length c] 24 (0, 0))).cell? ⟨w1.heap.size, 0, none⟩ = some (.int .i64 3) := Mem.heap_cell HX1.out rfl
  have x1 : (w1.alloc (.cells #[.int .i64 3, .slice A tangramlaw21_wakes.es.length c] 24 (0, 0))).cell? ⟨w1.heap.size, 1, none⟩ = some (.slice A tangramlaw21_wakes.es.length c) := Mem.heap_cell HX1.out rfl
  clear hb HB1 HC1 HD1
  go_wp2_with fail
  generalize w1.alloc (.cells #[.int .i64 3, .slice A tangramlaw21_wakes.es.length c] 24 (0, 0)) = w2 at HX1 HB2 HC2 HD2 x0 x1 ⊢
  obtain ⟨b, hbb⟩ : ∃ b, b = w1.heap.size := ⟨_, rfl⟩
  rw [← hbb] at HX1 x0 x1 ⊢
  clear hbb
  refine (canon_Code.calls 40 3 A c tangramlaw21_wakes.es A1 c1 tangramlaw21_wakes.r _ _ w2 HC2.out HL.out HD2.out HL1.out tangramlaw21_wakes.c1).mono ?_
  rintro e w3 ⟨v, rfl, hR, hb⟩
  have HB3 := Aside0.mk (HB2.out.trans (hb.mono HB2.out.size))
  have HX3 := Aside0.mk ((hb.block _ (Mem.lt_of HX1.out)).trans HX1.out)
  have HC3 := Aside0.mk (Kd.C_below HC2.out hb)
  have HD3 := Aside0.mk (Kd.C_below HD2.out hb)
  clear HB2 HX1 HC2 HD2
  first | clear x0 x1 | skip
  have x0 : w3.cell? ⟨b, 0, none⟩ = some (.int .i64 3) := Mem.heap_cell HX3.out rfl
  have x1 : w3.cell? ⟨b, 1, none⟩ = some (.slice A tangramlaw21_wakes.es.length c) := Mem.heap_cell HX3.out rfl
  clear hb
  obtain ⟨A3, c3, e3, hc, hC⟩ := Kd.R_reads hR
  have HR3 := Aside0.mk hC
  have HL3 := Aside0.mk hc
  clear hR hC hc
  subst e3
  go_wp2_with fail
  refine (canon_Rooted.calls 40 3 A c tangramlaw21_wakes.es A1 c1 tangramlaw21_wakes.r 1 _ _ w3 HC3.out HL.out HD3.out HL1.out tangramlaw21_wakes.c2).mono ?_
  rintro e w4 ⟨v, rfl, hR, hb⟩
  have HB4 := Aside0.mk (HB3.out.trans (hb.mono HB3.out.size))
  have HX4 := Aside0.mk ((hb.block _ (Mem.lt_of HX3.out)).trans HX3.out)
  have HC4 := Aside0.mk (Kd.C_below HC3.out hb)
  have HD4 := Aside0.mk (Kd.C_below HD3.out hb)
  clear HB3 HX3 HC3 HD3
  first | clear x0 x1 | skip
  have x0 : w4.cell? ⟨b, 0, none⟩ = some (.int .i64 3) := Mem.heap_cell HX4.out rfl
  have x1 : w4.cell? ⟨b, 1, none⟩ = some (.slice A tangramlaw21_wakes.es.length c) := Mem.heap_cell HX4.out rfl
  have HR3a := Aside0.mk (Kd.C_below HR3.out hb)
  clear HR3
  clear hb
  obtain ⟨A4, c4, e4, hc, hC⟩ := Kd.R_reads hR
  have HR4 := Aside0.mk hC
  have HL4 := Aside0.mk hc
  clear hR hC hc
  subst e4
  go_wp2_with fail
  refine (canon_Turns.calls 40 3 A c tangramlaw21_wakes.es A1 c1 tangramlaw21_wakes.r _ _ w4 HC4.out HL.out HD4.out HL1.out tangramlaw21_wakes.c3).mono ?_
  rintro e w5 ⟨rfl, hb⟩
  have HB5 := Aside0.mk (HB4.out.trans (hb.mono HB4.out.size))
  have HX5 := Aside0.mk ((hb.block _ (Mem.lt_of HX4.out)).trans HX4.out)
  have HC5 := Aside0.mk (Kd.C_below HC4.out hb)
  have HD5 := Aside0.mk (Kd.C_below HD4.out hb)
  clear HB4 HX4 HC4 HD4
  first | clear x0 x1 | skip
  have x0 : w5.cell? ⟨b, 0, none⟩ = some (.int .i64 3) := Mem.heap_cell HX5.out rfl
  have x1 : w5.cell? ⟨b, 1, none⟩ = some (.slice A tangramlaw21_wakes.es.length c) := Mem.heap_cell HX5.out rfl
  have HR3b := Aside0.mk (Kd.C_below HR3a.out hb)
  clear HR3a
  have HR4a := Aside0.mk (Kd.C_below HR4.out hb)
  clear HR4
  clear hb
  go_wp2_with fail
  refine (canon_Match.calls 40 3 A c tangramlaw21_wakes.es A1 c1 tangramlaw21_wakes.r 3 A c tangramlaw21_wakes.es A1 c1 tangramlaw21_wakes.r _ _ _ w5 HC5.out HL.out HD5.out HL1.out HC5.out HL.out HD5.out HL1.out tangramlaw21_wakes.c4).mono ?_
  rintro e w6 ⟨v, rfl, hR, hb⟩
  have HB6 := Aside0.mk (HB5.out.trans (hb.mono HB5.out.size))
  have HX6 := Aside0.mk ((hb.block _ (Mem.lt_of HX5.out)).trans HX5.out)
  have HC6 := Aside0.mk (Kd.C_below HC5.out hb)
  have HD6 := Aside0.mk (Kd.C_below HD5.out hb)
  clear HB5 HX5 HC5 HD5
  first | clear x0 x1 | skip
  have x0 : w6.cell? ⟨b, 0, none⟩ = some (.int .i64 3) := Mem.heap_cell HX6.out rfl
  have x1 : w6.cell? ⟨b, 1, none⟩ = some (.slice A tangramlaw21_wakes.es.length c) := Mem.heap_cell HX6.out rfl
  have HR3c := Aside0.mk (Kd.C_below HR3b.out hb)
  clear HR3b
  have HR4b := Aside0.mk (Kd.C_below HR4a.out hb)
  clear HR4a
  clear hb x0 x1
  obtain ⟨A6, c6, e6, hc, hC⟩ := Kd.R_reads hR
  have HR6 := Aside0.mk hC
  have HL6 := Aside0.mk hc
  clear hR hC hc
  subst e6
  have HQ7 : Aside0 (Kd.C Mem.KR ((Mem.lits w6 [[]]).alloc (.cells (Mem.outer w6.heap.size [[]]).toArray 32 (0, 0))) (some ⟨w6.heap.size + 1, 0, none⟩) 1 [[]]) := ⟨Mem.lits_reads w6 [[]] (by decide) (by decide)⟩
  have hb := Mem.lits_all w6 [[]]
  have HB7 := Aside0.mk (HB6.out.trans (hb.mono HB6.out.size))
  have HR3d := Aside0.mk (Kd.C_below HR3c.out hb)
  clear HR3c
  have HR4c := Aside0.mk (Kd.C_below HR4b.out hb)
  clear HR4b
  have HR6a := Aside0.mk (Kd.C_below HR6.out hb)
  clear HR6
  clear hb HB6 HX6 HC6 HD6
  go_wp2_with fail
  show Calls _ _ _ ((Mem.lits w6 [[]]).alloc (.cells (Mem.outer w6.heap.size [[]]).toArray 32 (0, 0))) _
  generalize (Mem.lits w6 [[]]).alloc (.cells (Mem.outer w6.heap.size [[]]).toArray 32 (0, 0)) = w7 at HQ7 HB7 HR3d HR4c HR6a ⊢
  refine (canon_Code.calls 40 1 none 0 [] (some ⟨w6.heap.size + 1, 0, none⟩) 1 [[]] _ _ w7 (Kd.C_nil _ _) (by decide) HQ7.out (by decide) tangramlaw21_wakes.c5).mono ?_
  rintro e w8 ⟨v, rfl, hR, hb⟩
  have HB8 := Aside0.mk (HB7.out.trans (hb.mono HB7.out.size))
  have HR3e := Aside0.mk (Kd.C_below HR3d.out hb)
  clear HR3d
  have HR4d := Aside0.mk (Kd.C_below HR4c.out hb)
  clear HR4c
  have HR6b := Aside0.mk (Kd.C_below HR6a.out hb)
  clear HR6a
  clear hb hR HQ7 HB7
  have HIX : Aside0 (Mem.IRow (w8.alloc (.cells #[.int .i64 1, .int .i64 1, .int .i64 2, .int .i64 0, .int .i64 2, .int .i64 1, .int .i64 1] 3 (0, 0))) w8.heap.size [1, 1, 2, 0, 2, 1, 1]) := ⟨Mem.heap_last w8 _⟩
  have hb := (Below.refl w8.heap.size w8).alloc (Nat.le_refl _) (.cells #[.int .i64 1, .int .i64 1, .int .i64 2, .int .i64 0, .int .i64 2, .int .i64 1, .int .i64 1] 3 (0, 0))
  have HBx := Aside0.mk (HB8.out.trans (hb.mono HB8.out.size))
  have HR3f := Aside0.mk (Kd.C_below HR3e.out hb)
  clear HR3e
  have HR4e := Aside0.mk (Kd.C_below HR4d.out hb)
  clear HR4d
  have HR6c := Aside0.mk (Kd.C_below HR6b.out hb)
  clear HR6b
  clear hb HB8
  go_wp2_with fail
  generalize w8.alloc (.cells #[.int .i64 1, .int .i64 1, .int .i64 2, .int .i64 0, .int .i64 2, .int .i64 1, .int .i64 1] 3 (0, 0)) = wx at HIX HBx HR3f HR4e HR6c ⊢
  refine (tangramref03_SameInts.calls 40 A3 c3 [1, 1, 2, 0, 2, 1, 1] (some ⟨w8.heap.size, 0, none⟩) 7 [1, 1, 2, 0, 2, 1, 1] true wx HR3f.out HL3.out (Mem.row_reads HIX.out (by decide)) (by decide) tangramlaw21_wakes.s1).mono ?_
  rintro e w9 ⟨rfl, hd⟩
  have hb := hd.below
  have HB9 := Aside0.mk (HBx.out.trans (hb.mono HBx.out.size))
  have HR4f := Aside0.mk (Kd.C_below HR4e.out hb)
  clear HR4e
  have HR6d := Aside0.mk (Kd.C_below HR6c.out hb)
  clear HR6c
  clear hb hd HIX HBx HR3f
  have HIX : Aside0 (Mem.IRow (w9.alloc (.cells #[.int .i64 2, .int .i64 1, .int .i64 2, .int .i64 1, .int .i64 0, .int .i64 1, .int .i64 0] 3 (0, 0))) w9.heap.size [2, 1, 2, 1, 0, 1, 0]) := ⟨Mem.heap_last w9 _⟩
  have hb := (Below.refl w9.heap.size w9).alloc (Nat.le_refl _) (.cells #[.int .i64 2, .int .i64 1, .int .i64 2, .int .i64 1, .int .i64 0, .int .i64 1, .int .i64 0] 3 (0, 0))
  have HBx := Aside0.mk (HB9.out.trans (hb.mono HB9.out.size))
  have HR4g := Aside0.mk (Kd.C_below HR4f.out hb)
  clear HR4f
  have HR6e := Aside0.mk (Kd.C_below HR6d.out hb)
  clear HR6d
  clear hb HB9
  go_wp2_with fail
  generalize w9.alloc (.cells #[.int .i64 2, .int .i64 1, .int .i64 2, .int .i64 1, .int .i64 0, .int .i64 1, .int .i64 0] 3 (0, 0)) = wx at HIX HBx HR4g HR6e ⊢
  refine (tangramref03_SameInts.calls 40 A4 c4 [2, 1, 2, 1, 0, 1, 0] (some ⟨w9.heap.size, 0, none⟩) 7 [2, 1, 2, 1, 0, 1, 0] true wx HR4g.out HL4.out (Mem.row_reads HIX.out (by decide)) (by decide) tangramlaw21_wakes.s2).mono ?_
  rintro e w10 ⟨rfl, hd⟩
  have hb := hd.below
  have HB10 := Aside0.mk (HBx.out.trans (hb.mono HBx.out.size))
  have HR6f := Aside0.mk (Kd.C_below HR6e.out hb)
  clear HR6e
  clear hb hd HIX HBx HR4g
  have HIX : Aside0 (Mem.IRow (w10.alloc (.cells #[.int .i64 0, .int .i64 1, .int .i64 2] 3 (0, 0))) w10.heap.size [0, 1, 2]) := ⟨Mem.heap_last w10 _⟩
  have hb := (Below.refl w10.heap.size w10).alloc (Nat.le_refl _) (.cells #[.int .i64 0, .int .i64 1, .int .i64 2] 3 (0, 0))
  have HBx := Aside0.mk (HB10.out.trans (hb.mono HB10.out.size))
  have HR6g := Aside0.mk (Kd.C_below HR6f.out hb)
  clear HR6f
  clear hb HB10
  go_wp2_with fail
  generalize w10.alloc (.cells #[.int .i64 0, .int .i64 1, .int .i64 2] 3 (0, 0)) = wx at HIX HBx HR6g ⊢
  refine (tangramref03_SameInts.calls 40 A6 c6 [0, 1, 2] (some ⟨w10.heap.size, 0, none⟩) 3 [0, 1, 2] true wx HR6g.out HL6.out (Mem.row_reads HIX.out (by decide)) (by decide) tangramlaw21_wakes.s3).mono ?_
  rintro e w11 ⟨rfl, hd⟩
  have hb := hd.below
  have HB11 := Aside0.mk (HBx.out.trans (hb.mono HBx.out.size))
  clear hb hd HIX HBx HR6g
  go_wp2_with fail
  go_ret
  exact ⟨rfl, HB11.out⟩

end Go.Proofs.Yteeihjpnhjnknaa.GAll
/- DERIVED. The law CanonCodes, walked. -/





namespace Go.Proofs.Yteeihjpnhjnknaa.Rot
open Go.RowKit Go.Proofs.YteeihjpnhjnknaaW.PrintWords Go.Proofs.YteeihjpnhjnknaaW.PrintLast Go.Proofs.YteeihjpnhjnknaaW.PrintMore Go.Proofs.Yteeihjpnhjnknaa.GAll Go.Proofs.Yteeihjpnhjnknaa.Mem Go.Proofs.Yteeihjpnhjnknaa.Seen
set_option linter.unusedVariables false
set_option linter.unusedSimpArgs false
set_option maxHeartbeats 4000000 in
set_option maxRecDepth 100000 in
theorem codes_walk (k : Nat) (n : Int) (A : Option Addr) (c : Nat) (l : List Ed) (A1 : Option Addr) (c1 : Nat) (r : List (List Int)) (w : World) (hr : Kd.C k89 w A l.length l) (hc : l.length ≤ c) (hr1 : Kd.C (Kd.slice 3 (Kd.int .i64)) w A1 r.length r) (hc1 : r.length ≤ c1)
    (cd : List Int) (e q : Int) (h1 : tangramlaw21_copied.f k n l r = some (n, l, r)) (h2 : canon_Code.f k n l r = some (cd, e)) (h3 : tangramref21_Code.f k n l r = some (cd, e)) (h4 : canon_Turns.f k n l r = some (q, e)) (h5 : tangramref21_Turns.f k n l r = some (q, e)) (h6 : tangramref03_SameInts.f k cd cd = some true) :
    Calls Try.prog 4 #[.agg #[.int .i64 n, .slice A l.length c], .slice A1 r.length c1] w fun e w' => e = .returned (.bool true) ∧ Below w.heap.size w w' := by
  have HX := Aside0.mk (heap_last w (.cells #[.int .i64 n, .slice A l.length c] 24 (0, 0)))
  have HB : Aside0 (Below w.heap.size w (w.alloc (.cells #[.int .i64 n, .slice A l.length c] 24 (0, 0)))) := ⟨(Below.refl _ _).alloc (Nat.le_refl _) _⟩
  have HR := Aside0.mk hr
  have HR1 := Aside0.mk hr1
  have H1 := Aside0.mk h1
  have H2 := Aside0.mk h2
  have H3 := Aside0.mk h3
  have H4 := Aside0.mk h4
  have H5 := Aside0.mk h5
  have H6 := Aside0.mk h6
  have HCC := Aside0.mk hc
  have HCC1 := Aside0.mk hc1
  clear hr hr1 h1 h2 h3 h4 h5 h6 hc hc1
  go_enter Try.func4, Try.ntmps4
  go_wp2_with fail
  obtain ⟨b1, hb1⟩ : ∃ b1, b1 = w.heap.size := ⟨_, rfl⟩
  rw [← hb1] at HX ⊢
  have HBB := Aside0.mk hb1
  clear hb1
  refine (tangramlaw21_wakes.calls true _ rfl).mono ?_
  rintro e1 w1 ⟨rfl, hb⟩
  have HB1 := Aside0.mk (HB.out.trans (hb.mono HB.out.size))
  have HX1 := Aside0.mk ((hb.block _ (lt_of HX.out)).trans HX.out)
  clear hb HB HX
  have x0 : w1.cell? ⟨b1, 0, none⟩ = some (.int .i64 n) := heap_cell HX1.out rfl
  have x1 : w1.cell? ⟨b1, 1, none⟩ = some (.slice A l.length c) := heap_cell HX1.out rfl
  go_wp2_with fail
  clear x0 x1
  refine (tangramlaw21_copied.calls k n A c l A1 c1 r n l r w1 (Kd.C_below HR.out HB1.out) HCC.out (Kd.C_below HR1.out HB1.out) HCC1.out H1.out).mono ?_
  rintro e2 w2 ⟨v1, v2, rfl, hL, hS, hb⟩
  obtain ⟨A2, c2, rfl, hc2, hL⟩ := Kd.R_reads hL
  obtain ⟨A3, c3, rfl, hc3, hS⟩ := Kd.S_reads hS
  have HC2 := Aside0.mk hc2
  have HC3 := Aside0.mk hc3
  have HB2 := Aside0.mk (HB1.out.trans (hb.mono HB1.out.size))
  have HX2 := Aside0.mk ((hb.block _ (lt_of HX1.out)).trans HX1.out)
  clear hb hc2 hc3 HB1 HX1
  obtain ⟨w3, hw3⟩ : ∃ w3, w3 = w2.alloc (.cells #[.int .i64 n, .slice A2 l.length c2] 24 (0, 0)) := ⟨_, rfl⟩
  have hb : Below w2.heap.size w2 w3 := by rw [hw3]; exact (Below.refl _ _).alloc (Nat.le_refl _) _
  obtain ⟨b2, hb2⟩ : ∃ b2, b2 = w2.heap.size := ⟨_, rfl⟩
  have HB3 := Aside0.mk (HB2.out.trans (hb.mono HB2.out.size))
  have HX3 := Aside0.mk ((hb.block _ (lt_of HX2.out)).trans HX2.out)
  have HY3 : Aside0 (w3.heap[b2]? = some (.cells #[.int .i64 n, .slice A2 l.length c2] 24 (0, 0))) := ⟨by rw [hw3, hb2]; exact heap_last _ _⟩
  have HL3 := Aside0.mk (Kd.C_below hL hb)
  have HS3 := Aside0.mk (Kd.C_below hS hb)
  clear hb HB2 HX2 hL hS
  go_upto_region 4 with (fail)
  rw [← hb2, ← hw3]
  clear hb2 hw3
  have x0 : w3.cell? ⟨b1, 0, none⟩ = some (.int .i64 n) := heap_cell HX3.out rfl
  have x1 : w3.cell? ⟨b1, 1, none⟩ = some (.slice A l.length c) := heap_cell HX3.out rfl
  have y0 : w3.cell? ⟨b2, 0, none⟩ = some (.int .i64 n) := heap_cell HY3.out rfl
  have y1 : w3.cell? ⟨b2, 1, none⟩ = some (.slice A2 l.length c2) := heap_cell HY3.out rfl
  go_wp2_with fail
  clear x0 x1 y0 y1
  refine (canon_Code.calls k n A2 c2 l A3 c3 r cd e w3 HL3.out HC2.out HS3.out HC3.out H2.out).mono ?_
  rintro e' w4 ⟨v4, rfl, hR, hb⟩
  have HB4 := Aside0.mk (HB3.out.trans (hb.mono HB3.out.size))
  have HX4 := Aside0.mk ((hb.block _ (lt_of HX3.out)).trans HX3.out)
  have HY4 := Aside0.mk ((hb.block _ (lt_of HY3.out)).trans HY3.out)
  have HL4 := Aside0.mk (Kd.C_below HL3.out hb)
  have HS4 := Aside0.mk (Kd.C_below HS3.out hb)
  obtain ⟨A4, c4, rfl, hc4, hR⟩ := Kd.R_reads hR
  have HC4 := Aside0.mk hc4
  have HV4 := Aside0.mk hR
  clear hb hR hc4 HB3 HX3 HY3 HL3 HS3
  have x0 : w4.cell? ⟨b1, 0, none⟩ = some (.int .i64 n) := heap_cell HX4.out rfl
  have x1 : w4.cell? ⟨b1, 1, none⟩ = some (.slice A l.length c) := heap_cell HX4.out rfl
  have y0 : w4.cell? ⟨b2, 0, none⟩ = some (.int .i64 n) := heap_cell HY4.out rfl
  have y1 : w4.cell? ⟨b2, 1, none⟩ = some (.slice A2 l.length c2) := heap_cell HY4.out rfl
  go_wp2_with fail
  clear x0 x1 y0 y1
  refine (tangramref21_Code.calls k n A c l A1 c1 r cd e w4 (Kd.C_below HR.out HB4.out) HCC.out (Kd.C_below HR1.out HB4.out) HCC1.out H3.out).mono ?_
  rintro e' w5 ⟨v5, rfl, hR, hb⟩
  have HB5 := Aside0.mk (HB4.out.trans (hb.mono HB4.out.size))
  have HX5 := Aside0.mk ((hb.block _ (lt_of HX4.out)).trans HX4.out)
  have HY5 := Aside0.mk ((hb.block _ (lt_of HY4.out)).trans HY4.out)
  have HL5 := Aside0.mk (Kd.C_below HL4.out hb)
  have HS5 := Aside0.mk (Kd.C_below HS4.out hb)
  have HV5 := Aside0.mk (Kd.C_below HV4.out hb)
  obtain ⟨A5, c5, rfl, hc5, hR⟩ := Kd.R_reads hR
  have HC5 := Aside0.mk hc5
  have HU5 := Aside0.mk hR
  clear hb hR hc5 HB4 HX4 HY4 HL4 HS4 HV4
  have x0 : w5.cell? ⟨b1, 0, none⟩ = some (.int .i64 n) := heap_cell HX5.out rfl
  have x1 : w5.cell? ⟨b1, 1, none⟩ = some (.slice A l.length c) := heap_cell HX5.out rfl
  have y0 : w5.cell? ⟨b2, 0, none⟩ = some (.int .i64 n) := heap_cell HY5.out rfl
  have y1 : w5.cell? ⟨b2, 1, none⟩ = some (.slice A2 l.length c2) := heap_cell HY5.out rfl
  go_wp2_with fail
  clear x0 x1 y0 y1
  refine (canon_Turns.calls k n A2 c2 l A3 c3 r q e w5 HL5.out HC2.out HS5.out HC3.out H4.out).mono ?_
  rintro e' w6 ⟨rfl, hb⟩
  have HB6 := Aside0.mk (HB5.out.trans (hb.mono HB5.out.size))
  have HX6 := Aside0.mk ((hb.block _ (lt_of HX5.out)).trans HX5.out)
  have HY6 := Aside0.mk ((hb.block _ (lt_of HY5.out)).trans HY5.out)
  have HL6 := Aside0.mk (Kd.C_below HL5.out hb)
  have HS6 := Aside0.mk (Kd.C_below HS5.out hb)
  have HV6 := Aside0.mk (Kd.C_below HV5.out hb)
  have HU6 := Aside0.mk (Kd.C_below HU5.out hb)
  clear hb HB5 HX5 HY5 HL5 HS5 HV5 HU5
  have x0 : w6.cell? ⟨b1, 0, none⟩ = some (.int .i64 n) := heap_cell HX6.out rfl
  have x1 : w6.cell? ⟨b1, 1, none⟩ = some (.slice A l.length c) := heap_cell HX6.out rfl
  have y0 : w6.cell? ⟨b2, 0, none⟩ = some (.int .i64 n) := heap_cell HY6.out rfl
  have y1 : w6.cell? ⟨b2, 1, none⟩ = some (.slice A2 l.length c2) := heap_cell HY6.out rfl
  go_wp2_with fail
  clear x0 x1 y0 y1
  refine (tangramref21_Turns.calls k n A c l A1 c1 r q e w6 (Kd.C_below HR.out HB6.out) HCC.out (Kd.C_below HR1.out HB6.out) HCC1.out H5.out).mono ?_
  rintro e' w7 ⟨rfl, hb⟩
  have HB7 := Aside0.mk (HB6.out.trans (hb.mono HB6.out.size))
  have HV7 := Aside0.mk (Kd.C_below HV6.out hb)
  have HU7 := Aside0.mk (Kd.C_below HU6.out hb)
  clear hb HB6 HX6 HY6 HL6 HS6 HV6 HU6
  go_wp2_with fail
  refine (tangramref03_SameInts.calls k A4 c4 cd A5 c5 cd true w7 HV7.out HC4.out HU7.out HC5.out H6.out).mono ?_
  rintro e' w8 ⟨rfl, hd⟩
  have HB8 := Aside0.mk (HB7.out.trans (hd.below.mono HB7.out.size))
  clear hd
  go_wp2_with fail
  go_ret
  exact ⟨by simp, HB8.out⟩
theorem one_ev {n : Int} {l : List Ed} {r : List (List Int)} {a : Int} {b c : List Int} {e f : Int} (h : Ev (fun k => canon_look.f k n l r) (a, b, c, e, f)) : Ev (fun k => canon_one.f k n l r) (a, b, c, if e = 0 then f else e) := by
  unfold canon_one.f
  exact Ev.bind h (Ev.now _)
theorem codes_both (n : Int) (l : List Ed) (r : List (List Int)) (hs : Small r) : ∃ c e q, Ev (fun k => canon_Code.f k n l r) (c, e) ∧ Ev (fun k => tangramref21_Code.f k n l r) (c, e) ∧ Ev (fun k => canon_Turns.f k n l r) (q, e) ∧ Ev (fun k => tangramref21_Turns.f k n l r) (q, e) ∧ c.length ≤ 9000000000000000 := by
  unfold canon_Code.f tangramref21_Code.f canon_Turns.f tangramref21_Turns.f
  cases case n l r hs with
  | bad v e h0 h1 hl hc hf =>
    have h := one_ev hl
    rw [if_neg h0] at h
    exact ⟨[], e, 0, Ev.bind h (Ev.congr (fun k => if_neg h0) (Ev.now _)), Ev.bind hf (Ev.congr (fun k => if_neg h0) (Ev.now _)), Ev.bind h (Ev.congr (fun k => if_neg h0) (Ev.now _)), Ev.bind hf (Ev.congr (fun k => if_neg h0) (Ev.now _)), by simp⟩
  | apart hg hl hc hf =>
    have h := one_ev hl
    rw [if_pos rfl] at h
    exact ⟨[], 210, 0, Ev.bind h (Ev.congr (fun k => if_neg (by decide)) (Ev.now _)), Ev.bind hf (Ev.congr (fun k => if_neg (by decide)) (Ev.now _)), Ev.bind h (Ev.congr (fun k => if_neg (by decide)) (Ev.now _)), Ev.bind hf (Ev.congr (fun k => if_neg (by decide)) (Ev.now _)), by simp⟩
  | fine N hN hm hp h0 hl hc hf =>
    subst hN
    have h := one_ev hl
    rw [if_pos rfl] at h
    have b1 := best_ev hm h0
    have b2 := refbest_ev hm hc h0
    exact ⟨codes N l r (bestOf N l r).1, 0, ((bestOf N l r).2 : Int), Ev.bind h (Ev.congr (fun k => if_pos rfl) (Ev.bind b1 (Ev.now _))), Ev.bind hf (Ev.congr (fun k => if_pos rfl) (Ev.bind b2 (Ev.now _))), Ev.bind h (Ev.congr (fun k => if_pos rfl) (Ev.bind b1 (Ev.now _))), Ev.bind hf (Ev.congr (fun k => if_pos rfl) (Ev.bind b2 (Ev.now _))), seen_cd hm _⟩
theorem CanonCodes (a0_0 : Int) (A0_1 : Option Addr) (c0_1 : Nat) (l0_1 : List Ed) (A1 : Option Addr) (c1 : Nat) (l1 : List (List Int)) (w : World) (hr0_1 : Kd.C k89 w A0_1 l0_1.length l0_1) (hc0_1 : l0_1.length ≤ c0_1) (hr1 : Kd.C (Kd.slice 3 (Kd.int .i64)) w A1 l1.length l1) (hc1 : l1.length ≤ c1)
    (g0 : Open.I64 a0_0 ∧ l0_1.length * 16 ≤ 140737488351232 ∧ ∀ x ∈ l0_1, Open.I64 x.f0 ∧ Open.I64 x.f1) (g1 : l1.length * 24 ≤ 140737488351232 ∧ ∀ x ∈ l1, x.length * 8 ≤ 140737488351232 ∧ ∀ y ∈ x, Open.I64 y) :
    Calls Try.prog 4 #[.agg #[.int .i64 a0_0, .slice A0_1 l0_1.length c0_1], .slice A1 l1.length c1] w fun e w' => e = .returned (.bool true) ∧ Below w.heap.size w w' := by
  have hs : Small l1 := ⟨g1.1, fun l hl => (g1.2 l hl).1⟩
  obtain ⟨c, e, q, ⟨K1, h1⟩, ⟨K2, h2⟩, ⟨K3, h3⟩, ⟨K4, h4⟩, hl⟩ := codes_both a0_0 l0_1 l1 hs
  obtain ⟨K5, h5⟩ := copied_ev a0_0 l0_1 l1 (by omega) hs
  obtain ⟨K6, h6⟩ := ints_same hl
  exact codes_walk (K1 + K2 + K3 + K4 + K5 + K6) a0_0 A0_1 c0_1 l0_1 A1 c1 l1 w hr0_1 hc0_1 hr1 hc1 c e q (h5 _ (by omega)) (h1 _ (by omega)) (h2 _ (by omega)) (h3 _ (by omega)) (h4 _ (by omega)) (h6 _ (by omega))
end Go.Proofs.Yteeihjpnhjnknaa.Rot
