/- DERIVED. Texts of this seat, one behind the other: lemmas and walks that the statement CanonNames needs. No condition. -/
import Derived.Test.YteeihjpnhjnknaaCCanonNamese
import Derived.Test.YteeihjpnhjnknaaCCanonNamesf
import Derived.Test.YteeihjpnhjnknaaCCanonNamesb
import Derived.SizedLaws
import Derived.ChangeSlices
import Derived.ProofKit
import Derived.OpenShut
import Derived.ChangeOld
import Derived.Deep.Slices
import Derived.Test.YteeihjpnhjnknaaCCanonNamesc
namespace Go.Proofs.Yteeihjpnhjnknaa.GAll
open Go.RowKit Go.Proofs.YteeihjpnhjnknaaW.PrintWords Go.Proofs.YteeihjpnhjnknaaW.PrintLast Go.Proofs.YteeihjpnhjnknaaW.PrintMore
attribute [local go_sem] max2_int min2_int max_two min_two max_three min_three max_four min_four   -- for this text's walks alone
set_option linter.unusedVariables false
set_option linter.unusedSimpArgs false
mutual
def tangramref11_Of.l0 : Nat → List (List Int) → List (List Int) → Int → Int → List (S89) → Option ((List (List Int)) × Int × Int)
 | 0, _, _, _, _, _ => none
 | k + 1, x1, x7, x8, x295000, x295001 => if x8 < x295000 then (tangramref11_Of.l1 k x1 x7 x8 ([] : List Int) 0 x295000 x295001) else (some (x7, 0, 0))
def tangramref11_Of.l1 : Nat → List (List Int) → List (List Int) → Int → List Int → Int → Int → List (S89) → Option ((List (List Int)) × Int × Int)
 | 0, _, _, _, _, _, _, _ => none
 | k + 1, x1, x7, x8, x9, x10, x295000, x295001 => if 0 ≤ x8 then (if x8 < (x1.length : Int) then (if x10 < ((rd_L5 x1 x8).length : Int) then (if 0 ≤ x10 then ((tangramref11_Half.f k x295000 x295001 x8 (rd (rd_L5 x1 x8) x10)).bind fun t303 => (if t303 < 0 then (some (([] : List (List Int)), x8, 111)) else ((tangramref11_stands.f k (rd_L5 x1 x8) x10 (rd (rd_L5 x1 x8) x10)).bind fun t307 => (if t307 = true then (some (([] : List (List Int)), x8, 112)) else (if x9.length < 17592186044416 then (tangramref11_Of.l1 k x1 x7 x8 (x9 ++ [t303]) (wrap64 (x10 + 1)) x295000 x295001) else (none)))))) else (none)) else ((tangramref11_degree.f k x295000 x295001 x8).bind fun t297 => (if (x9.length : Int) < t297 then (some (([] : List (List Int)), x8, 113)) else (if x7.length < 5864062014805 then (tangramref11_Of.l0 k x1 (x7 ++ [x9]) (wrap64 (x8 + 1)) x295000 x295001) else (none))))) else (none)) else (none)
end
def tangramref11_Of.f (k : Nat) (a0_0 : Int) (l0_1 : List (S89)) (l1 : List (List Int)) : Option ((List (List Int)) × Int × Int) := (tangramref03_Valid.f k a0_0 l0_1).bind fun t295 => (if t295 = true then (if (l1.length : Int) = a0_0 then (tangramref11_Of.l0 k l1 ([] : List (List Int)) 0 a0_0 l0_1) else (some (([] : List (List Int)), 0, 110))) else (some (([] : List (List Int)), 0, 1)))
theorem tangramref11_Of.mono_l : ∀ k, (∀ y0 y1 y2 y3 y4, LeO (tangramref11_Of.l0 k y0 y1 y2 y3 y4) (tangramref11_Of.l0 (k + 1) y0 y1 y2 y3 y4)) ∧ (∀ y0 y1 y2 y3 y4 y5 y6, LeO (tangramref11_Of.l1 k y0 y1 y2 y3 y4 y5 y6) (tangramref11_Of.l1 (k + 1) y0 y1 y2 y3 y4 y5 y6))
 | 0 => ⟨fun _ _ _ _ _ r h => by simp [tangramref11_Of.l0] at h, fun _ _ _ _ _ _ _ r h => by simp [tangramref11_Of.l1] at h⟩
 | k + 1 => by
  obtain ⟨ih0, ih1⟩ := tangramref11_Of.mono_l k
  refine ⟨?_, ?_⟩
  ·intro y0 y1 y2 y3 y4
   unfold tangramref11_Of.l0
   repeat' first
   | (with_reducible exact ih0 _ _ _ _ _)
   | (with_reducible exact ih1 _ _ _ _ _ _ _)
   | (with_reducible exact tangramref03_Valid.mono _ _ _)
   | (with_reducible exact tangramref11_Half.mono _ _ _ _ _)
   | (with_reducible exact tangramref11_degree.mono _ _ _ _)
   | (with_reducible exact tangramref11_stands.mono _ _ _ _)
   | (with_reducible exact LeO.refl _)
   | (with_reducible exact LeO.none _)
   | (with_reducible refine LeO.ite ?_ ?_)
   | (with_reducible refine LeO.bind ?_ (fun _ => ?_))
   | exact ih0 _ _ _ _ _
   | exact ih1 _ _ _ _ _ _ _
   | exact tangramref03_Valid.mono _ _ _
   | exact tangramref11_Half.mono _ _ _ _ _
   | exact tangramref11_degree.mono _ _ _ _
   | exact tangramref11_stands.mono _ _ _ _
   | exact LeO.none _
   | refine LeO.ite ?_ ?_
   | refine LeO.bind ?_ (fun _ => ?_)
  ·intro y0 y1 y2 y3 y4 y5 y6
   unfold tangramref11_Of.l1
   repeat' first
   | (with_reducible exact ih0 _ _ _ _ _)
   | (with_reducible exact ih1 _ _ _ _ _ _ _)
   | (with_reducible exact tangramref03_Valid.mono _ _ _)
   | (with_reducible exact tangramref11_Half.mono _ _ _ _ _)
   | (with_reducible exact tangramref11_degree.mono _ _ _ _)
   | (with_reducible exact tangramref11_stands.mono _ _ _ _)
   | (with_reducible exact LeO.refl _)
   | (with_reducible exact LeO.none _)
   | (with_reducible refine LeO.ite ?_ ?_)
   | (with_reducible refine LeO.bind ?_ (fun _ => ?_))
   | exact ih0 _ _ _ _ _
   | exact ih1 _ _ _ _ _ _ _
   | exact tangramref03_Valid.mono _ _ _
   | exact tangramref11_Half.mono _ _ _ _ _
   | exact tangramref11_degree.mono _ _ _ _
   | exact tangramref11_stands.mono _ _ _ _
   | exact LeO.none _
   | refine LeO.ite ?_ ?_
   | refine LeO.bind ?_ (fun _ => ?_)
theorem tangramref11_Of.mono : ∀ a0 a1 a2 k, LeO (tangramref11_Of.f k a0 a1 a2) (tangramref11_Of.f (k + 1) a0 a1 a2) := by
 intro a0 a1 a2 k
 obtain ⟨ih0, ih1⟩ := tangramref11_Of.mono_l k
 unfold tangramref11_Of.f
 repeat' first
   | (with_reducible exact ih0 _ _ _ _ _)
   | (with_reducible exact ih1 _ _ _ _ _ _ _)
   | (with_reducible exact tangramref03_Valid.mono _ _ _)
   | (with_reducible exact tangramref11_Half.mono _ _ _ _ _)
   | (with_reducible exact tangramref11_degree.mono _ _ _ _)
   | (with_reducible exact tangramref11_stands.mono _ _ _ _)
   | (with_reducible exact LeO.refl _)
   | (with_reducible exact LeO.none _)
   | (with_reducible refine LeO.ite ?_ ?_)
   | (with_reducible refine LeO.bind ?_ (fun _ => ?_))
   | exact ih0 _ _ _ _ _
   | exact ih1 _ _ _ _ _ _ _
   | exact tangramref03_Valid.mono _ _ _
   | exact tangramref11_Half.mono _ _ _ _ _
   | exact tangramref11_degree.mono _ _ _ _
   | exact tangramref11_stands.mono _ _ _ _
   | exact LeO.none _
   | refine LeO.ite ?_ ?_
   | refine LeO.bind ?_ (fun _ => ?_)
def tangramref11_Of.T13 : Bool × List (List Nat × List Nat) := (true, [([], []), ([], []), ([], []), ([], []), ([2, 3], [2, 3]), ([4], [4]), ([], []), ([5, 6], [5, 6]), ([7], [7]), ([0, 1, 8], [0, 1, 8]), ([9, 9, 0, 1, 2, 3, 4, 5, 6, 7, 8, 9], [9])])
def tangramref11_Of.B13 : List Nat := [0, 0, 0, 0, 12, 28, 0, 124, 252, 511, 1023]
theorem tangramref11_Of.tab13 : rtab .any (opsOf Try.f28 13) = tangramref11_Of.T13 := by kernel_rfl
theorem tangramref11_Of.bits13 : waitsOk tangramref11_Of.T13.2 tangramref11_Of.B13 = true := by kernel_rfl
def tangramref11_Of.T16 : Bool × List (List Nat × List Nat) := (true, [([], []), ([], []), ([0, 1], [0, 1]), ([2], [2]), ([], []), ([], []), ([], []), ([5, 6], [5, 6]), ([7], [7]), ([], []), ([8, 9], [8, 9]), ([10], [10]), ([3, 4, 11], [3, 4, 11])])
def tangramref11_Of.B16 : List Nat := [0, 0, 3, 7, 0, 0, 0, 96, 224, 0, 992, 2016, 4095]
theorem tangramref11_Of.tab16 : rtab .any (opsOf Try.f28 16) = tangramref11_Of.T16 := by kernel_rfl
theorem tangramref11_Of.bits16 : waitsOk tangramref11_Of.T16.2 tangramref11_Of.B16 = true := by kernel_rfl
set_option maxHeartbeats 8000000 in
set_option maxRecDepth 100000 in
theorem tangramref11_Of.calls (k : Nat) (a0_0 : Int) (A0_1 : Option Addr) (c0_1 : Nat) (l0_1 : List (S89)) (A1 : Option Addr) (c1 : Nat) (l1 : List (List Int)) (r1 : List (List Int)) (r2 : Int) (r3 : Int) (w : World) (hr0_1 : Kd.C k89 w A0_1 l0_1.length l0_1) (hc0_1 : l0_1.length ≤ c0_1) (hr1 : Kd.C (Kd.slice 3 (Kd.int .i64)) w A1 l1.length l1) (hc1 : l1.length ≤ c1) (h : tangramref11_Of.f k a0_0 l0_1 l1 = some (r1, r2, r3)) :
  Calls Try.prog 28 #[.agg #[.int .i64 a0_0, .slice A0_1 l0_1.length c0_1], .slice A1 l1.length c1] w fun e w' => ∃ v0_ : Value, e = .returned (.tuple #[v0_, .int .i64 r2, .int .i64 r3]) ∧ Kd.S (Kd.slice 3 (Kd.int .i64)) 32 w' w.heap.size (fun _ => True) v0_ r1 ∧ Below w.heap.size w w' := by
 have hu24 := Try.underlying24
 have HR0_1 := Aside0.mk hr0_1
 have HC0_1 := Aside0.mk hc0_1
 clear hr0_1 hc0_1
 have HR1 := Aside0.mk hr1
 have HC1 := Aside0.mk hc1
 clear hr1 hc1
 have HB := Aside0.mk (Below.refl w.heap.size w)
 have H : ((tangramref03_Valid.f k a0_0 l0_1).bind fun t295 => (if t295 = true then (if (l1.length : Int) = a0_0 then (tangramref11_Of.l0 k l1 ([] : List (List Int)) 0 a0_0 l0_1) else (some (([] : List (List Int)), 0, 110))) else (some (([] : List (List Int)), 0, 1)))) = some (r1, r2, r3) := h
 clear h
 replace H := Option.bind_eq_some_iff.mp H
 obtain ⟨t295, A30, H⟩ := H
 replace H : (if t295 = true then (if (l1.length : Int) = a0_0 then (tangramref11_Of.l0 k l1 ([] : List (List Int)) 0 a0_0 l0_1) else (some (([] : List (List Int)), 0, 110))) else (some (([] : List (List Int)), 0, 1))) = some (r1, r2, r3) := H
 have A3 := Aside0.mk A30
 clear A30
 by_cases c4 : t295 = true
 ·subst c4
  have H1 : (if (l1.length : Int) = a0_0 then (tangramref11_Of.l0 k l1 ([] : List (List Int)) 0 a0_0 l0_1) else (some (([] : List (List Int)), 0, 110))) = some (r1, r2, r3) := by rw [if_pos rfl] at H; exact H
  clear H
  have H := H1
  clear H1
  by_cases c5 : (l1.length : Int) = a0_0
  ·rw [if_pos c5] at H
   have c5b0 : ((l1.length : Int) == a0_0) = true := beq_iff_eq.mpr c5
   have c5b1 : ((l1.length : Int) != a0_0) = false := bne_eq_false_iff_eq.mpr c5
   clear c5
   have H' := Aside0.mk H
   clear H
   go_enter Try.func28, Try.ntmps28
   go_wp2_with (first | ((with_reducible refine gate_dst (N := 2) rfl ?_); refine box_event ?hg (N := 2) ?hd (cs := #[.int .i64 a0_0, .slice A0_1 l0_1.length c0_1]) (t := 24) ?hr ?_; (case hd => rfl); (case hg => rfl); (case hr => first | (go_simp; done) | (go_simp; rfl)); intro gb294 hg w6 hbox hb; have n0_ := Aside0.mk (below_step (by repeat (first | (with_reducible first | exact HB.out | apply below_alloc | apply pw_below_drewN | apply below_drew1) | exact HB.out)) hb); have n1_ := Aside0.mk (hbox); have n2_ := Aside0.mk ((by rw [hg]; exact (below_size (by repeat (first | (with_reducible first | exact HB.out | apply below_alloc | apply pw_below_drewN | apply below_drew1) | exact HB.out))) : w.heap.size ≤ gb294)); have n3_ := Aside0.mk ((by rw [hg]; exact (below_size (by repeat (first | (with_reducible first | exact HB.out | apply below_alloc | apply pw_below_drewN | apply below_drew1) | exact HB.out))) : w.heap.size ≤ gb294)); clear HB; have HB := n0_; have BK294 := n1_; have GW294 := n2_; have GE294 := n3_; clear n0_ n1_ n2_ n3_; clear hb hbox hg; have hcz7_0 : w6.cell? ⟨gb294, 0, none⟩ = some (.int .i64 a0_0) := (blk_cell BK294.out 0).trans rfl; have hcz7_1 : w6.cell? ⟨gb294, 1, none⟩ = some (.slice A0_1 l0_1.length c0_1) := (blk_cell BK294.out 1).trans rfl; have hfz7_0 := blk_frozen BK294.out 0; have hfz7_1 := blk_frozen BK294.out 1) | ((with_reducible refine gate_callee (f := 49) rfl ?_); refine goesL_ (some 13) rfl rfl Try.func49 (by kernel_rfl) rfl #[.agg #[.int .i64 a0_0, .slice A0_1 l0_1.length c0_1]] rfl (by (try simp only [List.map_toArray, List.map_cons, List.map_nil]); first | done | rfl | (simp only [List.length_drop, List.length_take]; rfl)) ?_; (with_reducible refine (tangramref03_Valid.calls k a0_0 _ _ l0_1 true _ ?side1 ?side2 A3.out).mono ?_); (case side1 => repeat (first | exact (Kd.C_below HR0_1.out HB.out) | (with_reducible refine Kd.C_alloc ?_ _) | (with_reducible refine Kd.C_drewN ?_ _) | (with_reducible refine Kd.C_drew ?_))); (case side2 => exact HC0_1.out); rintro e w8 ⟨rfl, hb⟩; refine ⟨_, rfl, ?_⟩; have n0_ := Aside0.mk (blk_below (g := gb294) (o := .cells #[.int .i64 a0_0, .slice A0_1 l0_1.length c0_1] 24 (0, 0)) (by (with_reducible repeat (first | refine blk_drewN ?_ _ | refine blk_drew ?_ | refine blk_alloc ?_ _)); exact BK294.out) hb); have n1_ := Aside0.mk (below_step (by repeat (first | (with_reducible first | exact HB.out | apply below_alloc | apply pw_below_drewN | apply below_drew1 | refine below_set ?_ GE294.out) | exact HB.out)) hb); clear BK294; clear HB; have BK294 := n0_; have HB := n1_; clear n0_ n1_; (try clear hb); (try clear hb2); (try clear hk); (try clear hi); have hcz9_0 : w8.cell? ⟨gb294, 0, none⟩ = some (.int .i64 a0_0) := (blk_cell BK294.out 0).trans rfl; have hcz9_1 : w8.cell? ⟨gb294, 1, none⟩ = some (.slice A0_1 l0_1.length c0_1) := (blk_cell BK294.out 1).trans rfl; have hfz9_0 := blk_frozen BK294.out 0; have hfz9_1 := blk_frozen BK294.out 1))
   go_loopg [7, 8] k (fun kq v7 v8 w' => ∃ (x7_1 : List (List Int)) (x8_1 : Int), v8 = .int .i64 x8_1 ∧ Aside0 (tangramref11_Of.l0 kq l1 x7_1 x8_1 a0_0 l0_1 = some (r1, r2, r3)) ∧ Aside0 (kq ≤ k) ∧ Aside0 (Kd.S (Kd.slice 3 (Kd.int .i64)) 32 w' w.heap.size (fun _ => True) v7 x7_1) ∧ Aside0 (w'.heap[gb294]? = some (.cells #[.int .i64 a0_0, (.slice A0_1 l0_1.length c0_1)] 24 (0, 0))) ∧ Aside0 (Below w.heap.size w w'))
   case atStart => exact ⟨(([] : List (List Int))), (0), (by first | rfl | (simp; done) | (simp [*]; done)), H', ⟨Nat.le_refl _⟩, ⟨by first | exact Kd.S_nil _ _ _ _ _ | exact Kd.N_nil _ _ _ _ _ | exact Kd.V_nil _ _ _ _ _ | exact Kd.Q_nil _ _ _ _ _ | exact Kd.R_nil _ _ _ _ _⟩, ⟨by (with_reducible repeat (first | refine blk_drewN ?_ _ | refine blk_drew ?_ | refine blk_alloc ?_ _)); exact BK294.out⟩, ⟨by repeat (first | (with_reducible first | exact HB.out | apply below_alloc | apply pw_below_drewN | apply below_drew1 | refine below_set ?_ GE294.out) | exact HB.out)⟩⟩
   case round =>
    clear H'
    try clear c1
    try clear c2
    try clear p2
    try clear c4
    try clear c5
    try clear c5b0
    try clear c5b1
    try clear hcz7_0
    try clear hcz7_1
    try clear hcz9_0
    try clear hcz9_1
    try clear hfz7_0
    try clear hfz7_1
    try clear hfz9_0
    try clear hfz9_1
    obtain ⟨x7_1, x8_1, rfl, HA, HK1, HO_7, BK294, HB⟩ := hrel
    cases gk with
    | zero => exact absurd HA.out (by simp [tangramref11_Of.l0])
    | succ k1 =>
     have H := HA.out
     clear HA
     simp only [tangramref11_Of.l0] at H
     by_cases c10 : x8_1 < a0_0
     ·rw [if_pos c10] at H
      have c10b0 : decide (x8_1 < a0_0) = true := decide_eq_true c10
      clear c10
      have H' := Aside0.mk H
      clear H
      have hcz11_0 : wr.cell? ⟨gb294, 0, none⟩ = some (.int .i64 a0_0) := (blk_cell BK294.out 0).trans rfl
      have hcz11_1 : wr.cell? ⟨gb294, 1, none⟩ = some (.slice A0_1 l0_1.length c0_1) := (blk_cell BK294.out 1).trans rfl
      have hfz11_0 := blk_frozen BK294.out 0
      have hfz11_1 := blk_frozen BK294.out 1
      go_wp2
      go_loopg [9, 10] k1 (fun kq v9 v10 w' => ∃ (x9_2 : List Int) (x10_2 : Int), v10 = .int .i64 x10_2 ∧ Aside0 (tangramref11_Of.l1 kq l1 x7_1 x8_1 x9_2 x10_2 a0_0 l0_1 = some (r1, r2, r3)) ∧ Aside0 (kq ≤ k1) ∧ Aside0 (Kd.S (Kd.slice 3 (Kd.int .i64)) 32 w' w.heap.size (fun k_ => some k_ ≠ (v9 : Value).ownBlock) u7 x7_1) ∧ Aside0 (Kd.R (Kd.int .i64) 3 w' w.heap.size (fun _ => True) v9 x9_2) ∧ Aside0 (w'.heap[gb294]? = some (.cells #[.int .i64 a0_0, (.slice A0_1 l0_1.length c0_1)] 24 (0, 0))) ∧ Aside0 (Below w.heap.size w w'))
      case atStart => exact ⟨(([] : List Int)), (0), (by first | rfl | (simp; done) | (simp [*]; done)), H', ⟨Nat.le_refl _⟩, ⟨by (with_reducible repeat (first | apply Kd.S_alloc | apply Kd.S_drewN | apply Kd.S_drew)); exact Kd.S_mono HO_7.out (fun _ hk => (by simp [Value.ownBlock]))⟩, ⟨by first | exact Kd.R_nil _ _ _ _ _ | exact Kd.N_nil _ _ _ _ _ | exact Kd.V_nil _ _ _ _ _ | exact Kd.Q_nil _ _ _ _ _ | exact Kd.S_nil _ _ _ _ _⟩, ⟨by (with_reducible repeat (first | refine blk_drewN ?_ _ | refine blk_drew ?_ | refine blk_alloc ?_ _)); exact BK294.out⟩, ⟨by repeat (first | (with_reducible first | exact HB.out | apply below_alloc | apply pw_below_drewN | apply below_drew1 | refine below_set ?_ GE294.out) | exact HB.out)⟩⟩
      case round =>
       clear H'
       try clear c1
       try clear c2
       try clear p2
       try clear c4
       try clear c5
       try clear c5b0
       try clear c5b1
       try clear c10
       try clear c10b0
       try clear hcz11_0
       try clear hcz11_1
       try clear hcz7_0
       try clear hcz7_1
       try clear hcz9_0
       try clear hcz9_1
       try clear hfz11_0
       try clear hfz11_1
       try clear hfz7_0
       try clear hfz7_1
       try clear hfz9_0
       try clear hfz9_1
       try clear p2
       obtain ⟨x9_2, x10_2, rfl, HA, HK2, HO_7, HO_9, BK294, HB⟩ := hrel
       cases gk with
       | zero => exact absurd HA.out (by simp [tangramref11_Of.l1])
       | succ k2 =>
        have H := HA.out
        clear HA
        simp only [tangramref11_Of.l1] at H
        by_cases c12 : 0 ≤ x8_1
        ·rw [if_pos c12] at H
         have c12b0 : decide (0 ≤ x8_1) = true := decide_eq_true c12
         clear c12
         by_cases c13 : x8_1 < (l1.length : Int)
         ·rw [if_pos c13] at H
          have c13b0 : decide (x8_1 < (l1.length : Int)) = true := decide_eq_true c13
          clear c13
          by_cases c14 : x10_2 < ((rd_L5 l1 x8_1).length : Int)
          ·rw [if_pos c14] at H
           have c14b0 : decide (x10_2 < ((rd_L5 l1 x8_1).length : Int)) = true := decide_eq_true c14
           clear c14
           by_cases c15 : 0 ≤ x10_2
           ·rw [if_pos c15] at H
            have c15b0 : decide (0 ≤ x10_2) = true := decide_eq_true c15
            clear c15
            replace H := Option.bind_eq_some_iff.mp H
            obtain ⟨t303, A160, H⟩ := H
            replace H : (if t303 < 0 then (some (([] : List (List Int)), x8_1, 111)) else ((tangramref11_stands.f k2 (rd_L5 l1 x8_1) x10_2 (rd (rd_L5 l1 x8_1) x10_2)).bind fun t307 => (if t307 = true then (some (([] : List (List Int)), x8_1, 112)) else (if x9_2.length < 17592186044416 then (tangramref11_Of.l1 k2 l1 x7_1 x8_1 (x9_2 ++ [t303]) (wrap64 (x10_2 + 1)) a0_0 l0_1) else (none))))) = some (r1, r2, r3) := H
            have A16 := Aside0.mk A160
            clear A160
            by_cases c17 : t303 < 0
            ·rw [if_pos c17] at H
             have c17b0 : decide (t303 < 0) = true := decide_eq_true c17
             clear c17
             simp only [Option.some.injEq, Prod.mk.injEq] at H
             obtain ⟨rfl, rfl, rfl⟩ := H
             have p296 : 0 ≤ (x8_1 : Int) := of_decide_eq_true (by first | (with_reducible assumption) | assumption)
             have q296 : x8_1 < (l1.length : Int) := of_decide_eq_true (by first | (with_reducible assumption) | assumption)
             obtain ⟨ad296, A296_0, c296_0, e296, hx296_0, hl296_0, hi296_0⟩ := at_L5 HR1.out x8_1 p296 q296
             cases e296
             replace hx296_0 := (HB.out.cell (World.block_lt_of_cell? w _ hx296_0)).trans hx296_0
             have HR296_0 := Aside0.mk hi296_0
             have HC296_0 := Aside0.mk hl296_0
             clear hi296_0 hl296_0
             replace p296 := eq_true p296
             replace q296 := eq_true q296
             try go_wp2
             have n0_ := Aside0.mk (Kd.S_drew HO_7.out)
             have n1_ := Aside0.mk (Kd.R_drew HO_9.out)
             have n2_ := Aside0.mk (blk_drew BK294.out)
             have n3_ := Aside0.mk (below_drew1 HB.out)
             clear HO_7
             clear HO_9
             clear BK294
             clear HB
             have HO_7 := n0_
             have HO_9 := n1_
             have BK294 := n2_
             have HB := n3_
             clear n0_ n1_ n2_ n3_
             have p301 : 0 ≤ (x8_1 : Int) := of_decide_eq_true (by first | (with_reducible assumption) | assumption)
             have q301 : x8_1 < (l1.length : Int) := of_decide_eq_true (by first | (with_reducible assumption) | assumption)
             obtain ⟨ad301, A301_0, c301_0, e301, hx301_0, hl301_0, hi301_0⟩ := at_L5 HR1.out x8_1 p301 q301
             have hw301_0 := hx301_0
             obtain rfl : ad296 = ad301 := (by injection e301)
             replace hx301_0 := (HB.out.cell (World.block_lt_of_cell? w _ hx301_0)).trans hx301_0
             have HR301_0 := Aside0.mk hi301_0
             have HC301_0 := Aside0.mk hl301_0
             clear hi301_0 hl301_0
             replace p301 := eq_true p301
             replace q301 := eq_true q301
             have p302 : 0 ≤ (x10_2 : Int) := of_decide_eq_true (by first | (with_reducible assumption) | assumption)
             have q302 : x10_2 < ((rd_L5 l1 x8_1).length : Int) := of_decide_eq_true (by first | (with_reducible assumption) | assumption)
             obtain ⟨ad302, e302, hx302_0⟩ := Kd.at_int HR301_0.out x10_2 p302 q302
             have hw302_0 := hx302_0
             cases e302
             replace hx302_0 := (HB.out.cell (World.block_lt_of_cell? w _ hx302_0)).trans hx302_0
             replace p302 := eq_true p302
             replace q302 := eq_true q302
             refine start_ (n := 11) (S := fun w' => w'.cell? ⟨gb294, 0, none⟩ = some (.int .i64 a0_0) ∧ w'.cell? ⟨gb294, 1, none⟩ = some (.slice A0_1 l0_1.length c0_1) ∧ w'.cell? (ad296.add (x8_1).toNat) = some (.slice (some ad302) (rd_L5 l1 x8_1).length c301_0) ∧ w'.cell? (ad302.add (x10_2).toNat) = some (.int .i64 (rd (rd_L5 l1 x8_1) x10_2))) (ds := []) #[false, false, false, false, false, false, false, false, false, false, false] (by kernel_rfl) rfl rfl ⟨(blk_cell BK294.out 0).trans rfl, (blk_cell BK294.out 1).trans rfl, ((HB.out.cell (World.block_lt_of_cell? w _ hw301_0)).trans hw301_0), ((HB.out.cell (World.block_lt_of_cell? w _ hw302_0)).trans hw302_0)⟩ (fun hHeld => ?_); refine with_tabW tangramref11_Of.tab13 tangramref11_Of.bits13 (fun HT_ HW_ => ?_)
             generalize wr.drew = w18 at HO_7 HO_9 BK294 HB HR301_0 hx301_0 hx302_0 hHeld ⊢
             refine pure_ (i := 1) (N := some 36) (v := ?_) (a' := ?_) #[false, true, false, false, false, false, false, false, false, false, false] rfl rfl (any_of HT_.out (by kernel_rfl)) (fun _ _ _ h => h) (Or.inl ⟨by rfl, ?_⟩) ?_ ?_
             rotate_left
             ·intro w'
              go_simp
              with_reducible rfl
             rotate_left
             ·simp only [Act.put, List.setIfInBounds_toArray, List.set_cons_zero, List.set_cons_succ, i64_w, i32_w]
              rfl
             refine pure_ (i := 2) (N := some 37) (v := ?_) (a' := ?_) #[false, true, true, false, false, false, false, false, false, false, false] rfl rfl (any_of HT_.out (by kernel_rfl)) (fun _ _ _ h => h) (Or.inl ⟨by rfl, ?_⟩) ?_ ?_
             rotate_left
             ·intro w'
              go_simp
              with_reducible rfl
             rotate_left
             ·simp only [Act.put, List.setIfInBounds_toArray, List.set_cons_zero, List.set_cons_succ, i64_w, i32_w]
              rfl
             refine pure_ (i := 3) (N := some 38) (v := ?_) (a' := ?_) #[false, true, true, true, false, false, false, false, false, false, false] rfl rfl (any_of HT_.out (by kernel_rfl)) (fun _ _ _ h => h) (Or.inl ⟨by rfl, ?_⟩) ?_ ?_
             rotate_left
             ·intro w'
              go_simp
              with_reducible rfl
             rotate_left
             ·simp only [Act.put, List.setIfInBounds_toArray, List.set_cons_zero, List.set_cons_succ, i64_w, i32_w]
              rfl
             refine pure_ (i := 4) (N := some 39) (v := ?_) (a' := ?_) #[false, true, true, true, true, false, false, false, false, false, false] rfl rfl (any_of HT_.out (by kernel_rfl)) (fun _ _ _ h => h) (Or.inl ⟨by rfl, ?_⟩) ?_ ?_
             rotate_left
             ·intro w'
              go_simp
              with_reducible rfl
             rotate_left
             ·simp only [Act.put, List.setIfInBounds_toArray, List.set_cons_zero, List.set_cons_succ, i64_w, i32_w]
              rfl
             refine pure_ (i := 6) (N := some 41) (v := ?_) (a' := ?_) #[false, true, true, true, true, false, true, false, false, false, false] rfl rfl (any_of HT_.out (by kernel_rfl)) (fun _ _ _ h => h) (Or.inl ⟨by rfl, ?_⟩) ?_ ?_
             rotate_left
             ·intro w'
              go_simp
              with_reducible rfl
             rotate_left
             ·simp only [Act.put, List.setIfInBounds_toArray, List.set_cons_zero, List.set_cons_succ, i64_w, i32_w]
              rfl
             refine take_ (i := 0) (N := some 35) (v := ?_) (a' := ?_) #[true, true, true, true, true, false, true, false, false, false, false] rfl rfl (take_ofW HT_.out HW_.out (by kernel_rfl)) (fun _ _ _ h => h) (Or.inl ⟨by rfl, ?_⟩) hHeld ?_ ?_
             rotate_left
             ·rintro w' ⟨s0, s1, s2, s3⟩
              go_simp
              with_reducible rfl
             rotate_left
             ·simp only [Act.put, List.setIfInBounds_toArray, List.set_cons_zero, List.set_cons_succ, i64_w, i32_w]
              rfl
             refine take_ (i := 5) (N := some 40) (v := ?_) (a' := ?_) #[true, true, true, true, true, true, true, false, false, false, false] rfl rfl (take_ofW HT_.out HW_.out (by kernel_rfl)) (fun _ _ _ h => h) (Or.inl ⟨by rfl, ?_⟩) hHeld ?_ ?_
             rotate_left
             ·rintro w' ⟨s0, s1, s2, s3⟩
              go_simp
              with_reducible rfl
             rotate_left
             ·simp only [Act.put, List.setIfInBounds_toArray, List.set_cons_zero, List.set_cons_succ, i64_w, i32_w]
              rfl
             refine pure_ (i := 7) (N := some 42) (v := ?_) (a' := ?_) #[true, true, true, true, true, true, true, true, false, false, false] rfl rfl (any_of HT_.out (by kernel_rfl)) (fun _ _ _ h => h) (Or.inl ⟨by rfl, ?_⟩) ?_ ?_
             rotate_left
             ·intro w'
              go_simp
              with_reducible rfl
             rotate_left
             ·simp only [Act.put, List.setIfInBounds_toArray, List.set_cons_zero, List.set_cons_succ, i64_w, i32_w]
              rfl
             refine take_ (i := 8) (N := some 43) (v := ?_) (a' := ?_) #[true, true, true, true, true, true, true, true, true, false, false] rfl rfl (take_ofW HT_.out HW_.out (by kernel_rfl)) (fun _ _ _ h => h) (Or.inl ⟨by rfl, ?_⟩) hHeld ?_ ?_
             rotate_left
             ·rintro w' ⟨s0, s1, s2, s3⟩
              go_simp
              with_reducible rfl
             rotate_left
             ·simp only [Act.put, List.setIfInBounds_toArray, List.set_cons_zero, List.set_cons_succ, i64_w, i32_w]
              rfl
             refine one_ (i := 9) (N := some 44) #[true, true, true, true, true, true, true, true, true, true, false] rfl rfl (one_of HT_.out (by kernel_rfl)) (by decide) (fun K hK => ?_)
             refine goes_ Try.func24 (by kernel_rfl) rfl #[.agg #[.int .i64 a0_0, .slice A0_1 l0_1.length c0_1], .int .i64 x8_1, .int .i64 (rd (rd_L5 l1 x8_1) x10_2)] (by rfl) rfl rfl (by (try simp only [List.map_toArray, List.map_cons, List.map_nil]); first | done | rfl | (simp only [List.length_drop, List.length_take]; rfl)) ?_
             with_reducible refine (tangramref11_Half.calls k2 a0_0 _ _ l0_1 x8_1 (rd (rd_L5 l1 x8_1) x10_2) t303 _ ?side1 ?side2 A16.out).mono ?_
             (case side1 => repeat (first | exact (Kd.C_below HR0_1.out HB.out) | (with_reducible refine Kd.C_alloc ?_ _) | (with_reducible refine Kd.C_drewN ?_ _) | (with_reducible refine Kd.C_drew ?_)))
             (case side2 => exact HC0_1.out)
             rintro e w19 ⟨rfl, hb⟩
             refine ⟨_, rfl, ?_⟩
             have n0_ := Aside0.mk (Kd.S_below (by (with_reducible repeat (first | apply Kd.S_alloc | apply Kd.S_drewN | apply Kd.S_drew)); exact HO_7.out) hb)
             have n1_ := Aside0.mk (Kd.R_below (by (with_reducible repeat (first | apply Kd.R_alloc | apply Kd.R_drewN | apply Kd.R_drew)); exact HO_9.out) hb)
             have n2_ := Aside0.mk (blk_below (g := gb294) (o := .cells #[.int .i64 a0_0, .slice A0_1 l0_1.length c0_1] 24 (0, 0)) (by (with_reducible repeat (first | refine blk_drewN ?_ _ | refine blk_drew ?_ | refine blk_alloc ?_ _)); exact BK294.out) hb)
             have n3_ := Aside0.mk (below_step (by repeat (first | (with_reducible first | exact HB.out | apply below_alloc | apply pw_below_drewN | apply below_drew1 | refine below_set ?_ GE294.out) | exact HB.out)) hb)
             clear HO_7
             clear HO_9
             clear BK294
             clear HB
             have HO_7 := n0_
             have HO_9 := n1_
             have BK294 := n2_
             have HB := n3_
             clear n0_ n1_ n2_ n3_
             (try clear hb)
             (try clear hb2)
             (try clear hk)
             (try clear hi)
             refine hK.out _ _ ⟨(blk_cell BK294.out 0).trans rfl, (blk_cell BK294.out 1).trans rfl, ((HB.out.cell (World.block_lt_of_cell? w _ hw301_0)).trans hw301_0), ((HB.out.cell (World.block_lt_of_cell? w _ hw302_0)).trans hw302_0)⟩ (fun hHeld => ?_)
             clear hK K
             refine norm_ (a' := ?_) ?_ ?_
             rotate_left
             ·show Act.put _ (some 44) _ = _
              simp only [Act.put, List.setIfInBounds_toArray, List.set_cons_zero, List.set_cons_succ, i64_w, i32_w]
              rfl
             refine pure_ (i := 10) (N := some 11) (v := ?_) (a' := ?_) #[true, true, true, true, true, true, true, true, true, true, true] rfl rfl (any_of HT_.out (by kernel_rfl)) (fun _ _ _ h => h) (Or.inl ⟨by rfl, ?_⟩) ?_ ?_
             rotate_left
             ·intro w'
              go_simp
              with_reducible rfl
             rotate_left
             ·simp only [Act.put, List.setIfInBounds_toArray, List.set_cons_zero, List.set_cons_succ, i64_w, i32_w]
              rfl
             refine done_ (done_of HT_.out (by kernel_rfl)) ?_
             try go_wp2
             go_ret3
             exact ⟨_, by first | rfl | (simp [errW_none, errW_some] <;> rfl) | (simp [*, errW_none, errW_some] <;> rfl), by first | exact Kd.S_nil _ _ _ _ _ | exact Kd.N_nil _ _ _ _ _ | exact Kd.V_nil _ _ _ _ _ | exact Kd.Q_nil _ _ _ _ _ | exact Kd.R_nil _ _ _ _ _, by repeat (first | (with_reducible first | exact HB.out | apply below_alloc | apply pw_below_drewN | apply below_drew1 | refine below_set ?_ GE294.out) | exact HB.out)⟩
            ·rw [if_neg c17] at H
             have c17b0 : decide (t303 < 0) = false := decide_eq_false c17
             clear c17
             replace H := Option.bind_eq_some_iff.mp H
             obtain ⟨t307, A200, H⟩ := H
             replace H : (if t307 = true then (some (([] : List (List Int)), x8_1, 112)) else (if x9_2.length < 17592186044416 then (tangramref11_Of.l1 k2 l1 x7_1 x8_1 (x9_2 ++ [t303]) (wrap64 (x10_2 + 1)) a0_0 l0_1) else (none))) = some (r1, r2, r3) := H
             have A20 := Aside0.mk A200
             clear A200
             by_cases c21 : t307 = true
             ·subst c21
              have H1 : (some (([] : List (List Int)), x8_1, 112)) = some (r1, r2, r3) := by rw [if_pos rfl] at H; exact H
              clear H
              have H := H1
              clear H1
              simp only [Option.some.injEq, Prod.mk.injEq] at H
              obtain ⟨rfl, rfl, rfl⟩ := H
              have p296 : 0 ≤ (x8_1 : Int) := of_decide_eq_true (by first | (with_reducible assumption) | assumption)
              have q296 : x8_1 < (l1.length : Int) := of_decide_eq_true (by first | (with_reducible assumption) | assumption)
              obtain ⟨ad296, A296_0, c296_0, e296, hx296_0, hl296_0, hi296_0⟩ := at_L5 HR1.out x8_1 p296 q296
              cases e296
              replace hx296_0 := (HB.out.cell (World.block_lt_of_cell? w _ hx296_0)).trans hx296_0
              have HR296_0 := Aside0.mk hi296_0
              have HC296_0 := Aside0.mk hl296_0
              clear hi296_0 hl296_0
              replace p296 := eq_true p296
              replace q296 := eq_true q296
              try go_wp2
              have n0_ := Aside0.mk (Kd.S_drew HO_7.out)
              have n1_ := Aside0.mk (Kd.R_drew HO_9.out)
              have n2_ := Aside0.mk (blk_drew BK294.out)
              have n3_ := Aside0.mk (below_drew1 HB.out)
              clear HO_7
              clear HO_9
              clear BK294
              clear HB
              have HO_7 := n0_
              have HO_9 := n1_
              have BK294 := n2_
              have HB := n3_
              clear n0_ n1_ n2_ n3_
              have p301 : 0 ≤ (x8_1 : Int) := of_decide_eq_true (by first | (with_reducible assumption) | assumption)
              have q301 : x8_1 < (l1.length : Int) := of_decide_eq_true (by first | (with_reducible assumption) | assumption)
              obtain ⟨ad301, A301_0, c301_0, e301, hx301_0, hl301_0, hi301_0⟩ := at_L5 HR1.out x8_1 p301 q301
              have hw301_0 := hx301_0
              obtain rfl : ad296 = ad301 := (by injection e301)
              replace hx301_0 := (HB.out.cell (World.block_lt_of_cell? w _ hx301_0)).trans hx301_0
              have HR301_0 := Aside0.mk hi301_0
              have HC301_0 := Aside0.mk hl301_0
              clear hi301_0 hl301_0
              replace p301 := eq_true p301
              replace q301 := eq_true q301
              have p302 : 0 ≤ (x10_2 : Int) := of_decide_eq_true (by first | (with_reducible assumption) | assumption)
              have q302 : x10_2 < ((rd_L5 l1 x8_1).length : Int) := of_decide_eq_true (by first | (with_reducible assumption) | assumption)
              obtain ⟨ad302, e302, hx302_0⟩ := Kd.at_int HR301_0.out x10_2 p302 q302
              have hw302_0 := hx302_0
              cases e302
              replace hx302_0 := (HB.out.cell (World.block_lt_of_cell? w _ hx302_0)).trans hx302_0
              replace p302 := eq_true p302
              replace q302 := eq_true q302
              refine start_ (n := 11) (S := fun w' => w'.cell? ⟨gb294, 0, none⟩ = some (.int .i64 a0_0) ∧ w'.cell? ⟨gb294, 1, none⟩ = some (.slice A0_1 l0_1.length c0_1) ∧ w'.cell? (ad296.add (x8_1).toNat) = some (.slice (some ad302) (rd_L5 l1 x8_1).length c301_0) ∧ w'.cell? (ad302.add (x10_2).toNat) = some (.int .i64 (rd (rd_L5 l1 x8_1) x10_2))) (ds := []) #[false, false, false, false, false, false, false, false, false, false, false] (by kernel_rfl) rfl rfl ⟨(blk_cell BK294.out 0).trans rfl, (blk_cell BK294.out 1).trans rfl, ((HB.out.cell (World.block_lt_of_cell? w _ hw301_0)).trans hw301_0), ((HB.out.cell (World.block_lt_of_cell? w _ hw302_0)).trans hw302_0)⟩ (fun hHeld => ?_); refine with_tabW tangramref11_Of.tab13 tangramref11_Of.bits13 (fun HT_ HW_ => ?_)
              generalize wr.drew = w22 at HO_7 HO_9 BK294 HB HR301_0 hx301_0 hx302_0 hHeld ⊢
              refine pure_ (i := 1) (N := some 36) (v := ?_) (a' := ?_) #[false, true, false, false, false, false, false, false, false, false, false] rfl rfl (any_of HT_.out (by kernel_rfl)) (fun _ _ _ h => h) (Or.inl ⟨by rfl, ?_⟩) ?_ ?_
              rotate_left
              ·intro w'
               go_simp
               with_reducible rfl
              rotate_left
              ·simp only [Act.put, List.setIfInBounds_toArray, List.set_cons_zero, List.set_cons_succ, i64_w, i32_w]
               rfl
              refine pure_ (i := 2) (N := some 37) (v := ?_) (a' := ?_) #[false, true, true, false, false, false, false, false, false, false, false] rfl rfl (any_of HT_.out (by kernel_rfl)) (fun _ _ _ h => h) (Or.inl ⟨by rfl, ?_⟩) ?_ ?_
              rotate_left
              ·intro w'
               go_simp
               with_reducible rfl
              rotate_left
              ·simp only [Act.put, List.setIfInBounds_toArray, List.set_cons_zero, List.set_cons_succ, i64_w, i32_w]
               rfl
              refine pure_ (i := 3) (N := some 38) (v := ?_) (a' := ?_) #[false, true, true, true, false, false, false, false, false, false, false] rfl rfl (any_of HT_.out (by kernel_rfl)) (fun _ _ _ h => h) (Or.inl ⟨by rfl, ?_⟩) ?_ ?_
              rotate_left
              ·intro w'
               go_simp
               with_reducible rfl
              rotate_left
              ·simp only [Act.put, List.setIfInBounds_toArray, List.set_cons_zero, List.set_cons_succ, i64_w, i32_w]
               rfl
              refine pure_ (i := 4) (N := some 39) (v := ?_) (a' := ?_) #[false, true, true, true, true, false, false, false, false, false, false] rfl rfl (any_of HT_.out (by kernel_rfl)) (fun _ _ _ h => h) (Or.inl ⟨by rfl, ?_⟩) ?_ ?_
              rotate_left
              ·intro w'
               go_simp
               with_reducible rfl
              rotate_left
              ·simp only [Act.put, List.setIfInBounds_toArray, List.set_cons_zero, List.set_cons_succ, i64_w, i32_w]
               rfl
              refine pure_ (i := 6) (N := some 41) (v := ?_) (a' := ?_) #[false, true, true, true, true, false, true, false, false, false, false] rfl rfl (any_of HT_.out (by kernel_rfl)) (fun _ _ _ h => h) (Or.inl ⟨by rfl, ?_⟩) ?_ ?_
              rotate_left
              ·intro w'
               go_simp
               with_reducible rfl
              rotate_left
              ·simp only [Act.put, List.setIfInBounds_toArray, List.set_cons_zero, List.set_cons_succ, i64_w, i32_w]
               rfl
              refine take_ (i := 0) (N := some 35) (v := ?_) (a' := ?_) #[true, true, true, true, true, false, true, false, false, false, false] rfl rfl (take_ofW HT_.out HW_.out (by kernel_rfl)) (fun _ _ _ h => h) (Or.inl ⟨by rfl, ?_⟩) hHeld ?_ ?_
              rotate_left
              ·rintro w' ⟨s0, s1, s2, s3⟩
               go_simp
               with_reducible rfl
              rotate_left
              ·simp only [Act.put, List.setIfInBounds_toArray, List.set_cons_zero, List.set_cons_succ, i64_w, i32_w]
               rfl
              refine take_ (i := 5) (N := some 40) (v := ?_) (a' := ?_) #[true, true, true, true, true, true, true, false, false, false, false] rfl rfl (take_ofW HT_.out HW_.out (by kernel_rfl)) (fun _ _ _ h => h) (Or.inl ⟨by rfl, ?_⟩) hHeld ?_ ?_
              rotate_left
              ·rintro w' ⟨s0, s1, s2, s3⟩
               go_simp
               with_reducible rfl
              rotate_left
              ·simp only [Act.put, List.setIfInBounds_toArray, List.set_cons_zero, List.set_cons_succ, i64_w, i32_w]
               rfl
              refine pure_ (i := 7) (N := some 42) (v := ?_) (a' := ?_) #[true, true, true, true, true, true, true, true, false, false, false] rfl rfl (any_of HT_.out (by kernel_rfl)) (fun _ _ _ h => h) (Or.inl ⟨by rfl, ?_⟩) ?_ ?_
              rotate_left
              ·intro w'
               go_simp
               with_reducible rfl
              rotate_left
              ·simp only [Act.put, List.setIfInBounds_toArray, List.set_cons_zero, List.set_cons_succ, i64_w, i32_w]
               rfl
              refine take_ (i := 8) (N := some 43) (v := ?_) (a' := ?_) #[true, true, true, true, true, true, true, true, true, false, false] rfl rfl (take_ofW HT_.out HW_.out (by kernel_rfl)) (fun _ _ _ h => h) (Or.inl ⟨by rfl, ?_⟩) hHeld ?_ ?_
              rotate_left
              ·rintro w' ⟨s0, s1, s2, s3⟩
               go_simp
               with_reducible rfl
              rotate_left
              ·simp only [Act.put, List.setIfInBounds_toArray, List.set_cons_zero, List.set_cons_succ, i64_w, i32_w]
               rfl
              refine one_ (i := 9) (N := some 44) #[true, true, true, true, true, true, true, true, true, true, false] rfl rfl (one_of HT_.out (by kernel_rfl)) (by decide) (fun K hK => ?_)
              refine goes_ Try.func24 (by kernel_rfl) rfl #[.agg #[.int .i64 a0_0, .slice A0_1 l0_1.length c0_1], .int .i64 x8_1, .int .i64 (rd (rd_L5 l1 x8_1) x10_2)] (by rfl) rfl rfl (by (try simp only [List.map_toArray, List.map_cons, List.map_nil]); first | done | rfl | (simp only [List.length_drop, List.length_take]; rfl)) ?_
              with_reducible refine (tangramref11_Half.calls k2 a0_0 _ _ l0_1 x8_1 (rd (rd_L5 l1 x8_1) x10_2) t303 _ ?side1 ?side2 A16.out).mono ?_
              (case side1 => repeat (first | exact (Kd.C_below HR0_1.out HB.out) | (with_reducible refine Kd.C_alloc ?_ _) | (with_reducible refine Kd.C_drewN ?_ _) | (with_reducible refine Kd.C_drew ?_)))
              (case side2 => exact HC0_1.out)
              rintro e w23 ⟨rfl, hb⟩
              refine ⟨_, rfl, ?_⟩
              have n0_ := Aside0.mk (Kd.S_below (by (with_reducible repeat (first | apply Kd.S_alloc | apply Kd.S_drewN | apply Kd.S_drew)); exact HO_7.out) hb)
              have n1_ := Aside0.mk (Kd.R_below (by (with_reducible repeat (first | apply Kd.R_alloc | apply Kd.R_drewN | apply Kd.R_drew)); exact HO_9.out) hb)
              have n2_ := Aside0.mk (blk_below (g := gb294) (o := .cells #[.int .i64 a0_0, .slice A0_1 l0_1.length c0_1] 24 (0, 0)) (by (with_reducible repeat (first | refine blk_drewN ?_ _ | refine blk_drew ?_ | refine blk_alloc ?_ _)); exact BK294.out) hb)
              have n3_ := Aside0.mk (below_step (by repeat (first | (with_reducible first | exact HB.out | apply below_alloc | apply pw_below_drewN | apply below_drew1 | refine below_set ?_ GE294.out) | exact HB.out)) hb)
              clear HO_7
              clear HO_9
              clear BK294
              clear HB
              have HO_7 := n0_
              have HO_9 := n1_
              have BK294 := n2_
              have HB := n3_
              clear n0_ n1_ n2_ n3_
              (try clear hb)
              (try clear hb2)
              (try clear hk)
              (try clear hi)
              refine hK.out _ _ ⟨(blk_cell BK294.out 0).trans rfl, (blk_cell BK294.out 1).trans rfl, ((HB.out.cell (World.block_lt_of_cell? w _ hw301_0)).trans hw301_0), ((HB.out.cell (World.block_lt_of_cell? w _ hw302_0)).trans hw302_0)⟩ (fun hHeld => ?_)
              clear hK K
              refine norm_ (a' := ?_) ?_ ?_
              rotate_left
              ·show Act.put _ (some 44) _ = _
               simp only [Act.put, List.setIfInBounds_toArray, List.set_cons_zero, List.set_cons_succ, i64_w, i32_w]
               rfl
              refine pure_ (i := 10) (N := some 11) (v := ?_) (a' := ?_) #[true, true, true, true, true, true, true, true, true, true, true] rfl rfl (any_of HT_.out (by kernel_rfl)) (fun _ _ _ h => h) (Or.inl ⟨by rfl, ?_⟩) ?_ ?_
              rotate_left
              ·intro w'
               go_simp
               with_reducible rfl
              rotate_left
              ·simp only [Act.put, List.setIfInBounds_toArray, List.set_cons_zero, List.set_cons_succ, i64_w, i32_w]
               rfl
              refine done_ (done_of HT_.out (by kernel_rfl)) ?_
              try go_wp2
              have n0_ := Aside0.mk (Kd.S_drew HO_7.out)
              have n1_ := Aside0.mk (Kd.R_drew HO_9.out)
              have n2_ := Aside0.mk (blk_drew BK294.out)
              have n3_ := Aside0.mk (below_drew1 HB.out)
              clear HO_7
              clear HO_9
              clear BK294
              clear HB
              have HO_7 := n0_
              have HO_9 := n1_
              have BK294 := n2_
              have HB := n3_
              clear n0_ n1_ n2_ n3_
              have p304 : 0 ≤ (x8_1 : Int) := of_decide_eq_true (by first | (with_reducible assumption) | assumption)
              have q304 : x8_1 < (l1.length : Int) := of_decide_eq_true (by first | (with_reducible assumption) | assumption)
              obtain ⟨ad304, A304_0, c304_0, e304, hx304_0, hl304_0, hi304_0⟩ := at_L5 HR1.out x8_1 p304 q304
              have hw304_0 := hx304_0
              obtain rfl : ad296 = ad304 := (by injection e304)
              replace hx304_0 := (HB.out.cell (World.block_lt_of_cell? w _ hx304_0)).trans hx304_0
              have HR304_0 := Aside0.mk hi304_0
              have HC304_0 := Aside0.mk hl304_0
              clear hi304_0 hl304_0
              replace p304 := eq_true p304
              replace q304 := eq_true q304
              have p305 : 0 ≤ (x8_1 : Int) := of_decide_eq_true (by first | (with_reducible assumption) | assumption)
              have q305 : x8_1 < (l1.length : Int) := of_decide_eq_true (by first | (with_reducible assumption) | assumption)
              obtain ⟨ad305, A305_0, c305_0, e305, hx305_0, hl305_0, hi305_0⟩ := at_L5 HR1.out x8_1 p305 q305
              have hw305_0 := hx305_0
              obtain rfl : ad296 = ad305 := (by injection e305)
              replace hx305_0 := (HB.out.cell (World.block_lt_of_cell? w _ hx305_0)).trans hx305_0
              have HR305_0 := Aside0.mk hi305_0
              have HC305_0 := Aside0.mk hl305_0
              clear hi305_0 hl305_0
              replace p305 := eq_true p305
              replace q305 := eq_true q305
              have ea_ := Option.some.inj (hx304_0.symm.trans hx305_0)
              injection ea_ with ea_ en_ ec_
              subst ea_
              subst ec_
              clear en_
              have p306 : 0 ≤ (x10_2 : Int) := of_decide_eq_true (by first | (with_reducible assumption) | assumption)
              have q306 : x10_2 < ((rd_L5 l1 x8_1).length : Int) := of_decide_eq_true (by first | (with_reducible assumption) | assumption)
              obtain ⟨ad306, e306, hx306_0⟩ := Kd.at_int HR305_0.out x10_2 p306 q306
              have hw306_0 := hx306_0
              cases e306
              replace hx306_0 := (HB.out.cell (World.block_lt_of_cell? w _ hx306_0)).trans hx306_0
              replace p306 := eq_true p306
              replace q306 := eq_true q306
              refine start_ (n := 13) (S := fun w' => w'.cell? (ad296.add (x8_1).toNat) = some (.slice (some ad306) (rd_L5 l1 x8_1).length c304_0) ∧ w'.cell? (ad296.add (x8_1).toNat) = some (.slice (some ad306) (rd_L5 l1 x8_1).length c304_0) ∧ w'.cell? (ad306.add (x10_2).toNat) = some (.int .i64 (rd (rd_L5 l1 x8_1) x10_2))) (ds := []) #[false, false, false, false, false, false, false, false, false, false, false, false, false] (by kernel_rfl) rfl rfl ⟨((HB.out.cell (World.block_lt_of_cell? w _ hw304_0)).trans hw304_0), ((HB.out.cell (World.block_lt_of_cell? w _ hw305_0)).trans hw305_0), ((HB.out.cell (World.block_lt_of_cell? w _ hw306_0)).trans hw306_0)⟩ (fun hHeld => ?_); refine with_tabW tangramref11_Of.tab16 tangramref11_Of.bits16 (fun HT_ HW_ => ?_)
              generalize w23.drew = w24 at HO_7 HO_9 BK294 HB HR304_0 HR305_0 hx304_0 hx305_0 hx306_0 hHeld ⊢
              refine pure_ (i := 0) (N := some 48) (v := ?_) (a' := ?_) #[true, false, false, false, false, false, false, false, false, false, false, false, false] rfl rfl (any_of HT_.out (by kernel_rfl)) (fun _ _ _ h => h) (Or.inl ⟨by rfl, ?_⟩) ?_ ?_
              rotate_left
              ·intro w'
               go_simp
               with_reducible rfl
              rotate_left
              ·simp only [Act.put, List.setIfInBounds_toArray, List.set_cons_zero, List.set_cons_succ, i64_w, i32_w]
               rfl
              refine pure_ (i := 1) (N := some 49) (v := ?_) (a' := ?_) #[true, true, false, false, false, false, false, false, false, false, false, false, false] rfl rfl (any_of HT_.out (by kernel_rfl)) (fun _ _ _ h => h) (Or.inl ⟨by rfl, ?_⟩) ?_ ?_
              rotate_left
              ·intro w'
               go_simp
               with_reducible rfl
              rotate_left
              ·simp only [Act.put, List.setIfInBounds_toArray, List.set_cons_zero, List.set_cons_succ, i64_w, i32_w]
               rfl
              refine pure_ (i := 2) (N := some 50) (v := ?_) (a' := ?_) #[true, true, true, false, false, false, false, false, false, false, false, false, false] rfl rfl (any_of HT_.out (by kernel_rfl)) (fun _ _ _ h => h) (Or.inl ⟨by rfl, ?_⟩) ?_ ?_
              rotate_left
              ·intro w'
               go_simp
               with_reducible rfl
              rotate_left
              ·simp only [Act.put, List.setIfInBounds_toArray, List.set_cons_zero, List.set_cons_succ, i64_w, i32_w]
               rfl
              refine pure_ (i := 4) (N := some 52) (v := ?_) (a' := ?_) #[true, true, true, false, true, false, false, false, false, false, false, false, false] rfl rfl (any_of HT_.out (by kernel_rfl)) (fun _ _ _ h => h) (Or.inl ⟨by rfl, ?_⟩) ?_ ?_
              rotate_left
              ·intro w'
               go_simp
               with_reducible rfl
              rotate_left
              ·simp only [Act.put, List.setIfInBounds_toArray, List.set_cons_zero, List.set_cons_succ, i64_w, i32_w]
               rfl
              refine pure_ (i := 5) (N := some 53) (v := ?_) (a' := ?_) #[true, true, true, false, true, true, false, false, false, false, false, false, false] rfl rfl (any_of HT_.out (by kernel_rfl)) (fun _ _ _ h => h) (Or.inl ⟨by rfl, ?_⟩) ?_ ?_
              rotate_left
              ·intro w'
               go_simp
               with_reducible rfl
              rotate_left
              ·simp only [Act.put, List.setIfInBounds_toArray, List.set_cons_zero, List.set_cons_succ, i64_w, i32_w]
               rfl
              refine pure_ (i := 6) (N := some 54) (v := ?_) (a' := ?_) #[true, true, true, false, true, true, true, false, false, false, false, false, false] rfl rfl (any_of HT_.out (by kernel_rfl)) (fun _ _ _ h => h) (Or.inl ⟨by rfl, ?_⟩) ?_ ?_
              rotate_left
              ·intro w'
               go_simp
               with_reducible rfl
              rotate_left
              ·simp only [Act.put, List.setIfInBounds_toArray, List.set_cons_zero, List.set_cons_succ, i64_w, i32_w]
               rfl
              refine pure_ (i := 7) (N := some 55) (v := ?_) (a' := ?_) #[true, true, true, false, true, true, true, true, false, false, false, false, false] rfl rfl (any_of HT_.out (by kernel_rfl)) (fun _ _ _ h => h) (Or.inl ⟨by rfl, ?_⟩) ?_ ?_
              rotate_left
              ·intro w'
               go_simp
               with_reducible rfl
              rotate_left
              ·simp only [Act.put, List.setIfInBounds_toArray, List.set_cons_zero, List.set_cons_succ, i64_w, i32_w]
               rfl
              refine pure_ (i := 9) (N := some 57) (v := ?_) (a' := ?_) #[true, true, true, false, true, true, true, true, false, true, false, false, false] rfl rfl (any_of HT_.out (by kernel_rfl)) (fun _ _ _ h => h) (Or.inl ⟨by rfl, ?_⟩) ?_ ?_
              rotate_left
              ·intro w'
               go_simp
               with_reducible rfl
              rotate_left
              ·simp only [Act.put, List.setIfInBounds_toArray, List.set_cons_zero, List.set_cons_succ, i64_w, i32_w]
               rfl
              refine take_ (i := 3) (N := some 51) (v := ?_) (a' := ?_) #[true, true, true, true, true, true, true, true, false, true, false, false, false] rfl rfl (take_ofW HT_.out HW_.out (by kernel_rfl)) (fun _ _ _ h => h) (Or.inl ⟨by rfl, ?_⟩) hHeld ?_ ?_
              rotate_left
              ·rintro w' ⟨s0, s1, s2⟩
               go_simp
               with_reducible rfl
              rotate_left
              ·simp only [Act.put, List.setIfInBounds_toArray, List.set_cons_zero, List.set_cons_succ, i64_w, i32_w]
               rfl
              refine take_ (i := 8) (N := some 56) (v := ?_) (a' := ?_) #[true, true, true, true, true, true, true, true, true, true, false, false, false] rfl rfl (take_ofW HT_.out HW_.out (by kernel_rfl)) (fun _ _ _ h => h) (Or.inl ⟨by rfl, ?_⟩) hHeld ?_ ?_
              rotate_left
              ·rintro w' ⟨s0, s1, s2⟩
               go_simp
               with_reducible rfl
              rotate_left
              ·simp only [Act.put, List.setIfInBounds_toArray, List.set_cons_zero, List.set_cons_succ, i64_w, i32_w]
               rfl
              refine pure_ (i := 10) (N := some 58) (v := ?_) (a' := ?_) #[true, true, true, true, true, true, true, true, true, true, true, false, false] rfl rfl (any_of HT_.out (by kernel_rfl)) (fun _ _ _ h => h) (Or.inl ⟨by rfl, ?_⟩) ?_ ?_
              rotate_left
              ·intro w'
               go_simp
               with_reducible rfl
              rotate_left
              ·simp only [Act.put, List.setIfInBounds_toArray, List.set_cons_zero, List.set_cons_succ, i64_w, i32_w]
               rfl
              refine take_ (i := 11) (N := some 59) (v := ?_) (a' := ?_) #[true, true, true, true, true, true, true, true, true, true, true, true, false] rfl rfl (take_ofW HT_.out HW_.out (by kernel_rfl)) (fun _ _ _ h => h) (Or.inl ⟨by rfl, ?_⟩) hHeld ?_ ?_
              rotate_left
              ·rintro w' ⟨s0, s1, s2⟩
               go_simp
               with_reducible rfl
              rotate_left
              ·simp only [Act.put, List.setIfInBounds_toArray, List.set_cons_zero, List.set_cons_succ, i64_w, i32_w]
               rfl
              refine one_ (i := 12) (N := some 60) #[true, true, true, true, true, true, true, true, true, true, true, true, true] rfl rfl (one_of HT_.out (by kernel_rfl)) (by decide) (fun K hK => ?_)
              refine goes_ Try.func50 (by kernel_rfl) rfl #[.slice (some ad306) (rd_L5 l1 x8_1).length c304_0, .int .i64 x10_2, .int .i64 (rd (rd_L5 l1 x8_1) x10_2)] (by rfl) rfl rfl (by (try simp only [List.map_toArray, List.map_cons, List.map_nil]); first | done | rfl | (simp only [List.length_drop, List.length_take]; rfl)) ?_
              with_reducible refine (tangramref11_stands.calls k2 _ _ (rd_L5 l1 x8_1) x10_2 (rd (rd_L5 l1 x8_1) x10_2) true _ ?side1 ?side2 A20.out).mono ?_
              (case side1 => repeat (first | exact (Kd.C_below HR304_0.out HB.out) | (with_reducible refine Kd.C_alloc ?_ _) | (with_reducible refine Kd.C_drewN ?_ _) | (with_reducible refine Kd.C_drew ?_)))
              (case side2 => exact HC304_0.out)
              rintro e w' ⟨rfl, ⟨nd, rfl⟩⟩
              refine ⟨_, rfl, ?_⟩
              refine hK.out _ _ ⟨((HB.out.cell (World.block_lt_of_cell? w _ hw304_0)).trans hw304_0), ((HB.out.cell (World.block_lt_of_cell? w _ hw305_0)).trans hw305_0), ((HB.out.cell (World.block_lt_of_cell? w _ hw306_0)).trans hw306_0)⟩ (fun hHeld => ?_)
              clear hK K
              refine norm_ (a' := ?_) ?_ ?_
              rotate_left
              ·show Act.put _ (some 60) _ = _
               simp only [Act.put, List.setIfInBounds_toArray, List.set_cons_zero, List.set_cons_succ, i64_w, i32_w]
               rfl
              refine done_ (done_of HT_.out (by kernel_rfl)) ?_
              try go_wp2
              go_ret3
              exact ⟨_, by first | rfl | (simp [errW_none, errW_some] <;> rfl) | (simp [*, errW_none, errW_some] <;> rfl), by first | exact Kd.S_nil _ _ _ _ _ | exact Kd.N_nil _ _ _ _ _ | exact Kd.V_nil _ _ _ _ _ | exact Kd.Q_nil _ _ _ _ _ | exact Kd.R_nil _ _ _ _ _, by repeat (first | (with_reducible first | exact HB.out | apply below_alloc | apply pw_below_drewN | apply below_drew1 | refine below_set ?_ GE294.out) | exact HB.out)⟩
             ·replace c21 := Bool.eq_false_iff.mpr c21
              subst c21
              have H1 : (if x9_2.length < 17592186044416 then (tangramref11_Of.l1 k2 l1 x7_1 x8_1 (x9_2 ++ [t303]) (wrap64 (x10_2 + 1)) a0_0 l0_1) else (none)) = some (r1, r2, r3) := by rw [if_neg (show ¬ (false = true) by decide)] at H; exact H
              clear H
              have H := H1
              clear H1
              by_cases c25 : x9_2.length < 17592186044416
              ·rw [if_pos c25] at H
               have LMc25 := Aside0.mk c25
               clear c25
               obtain ⟨y308, hy308⟩ : ∃ y_ : List Int, y_ = (x9_2 ++ [t303]) := ⟨_, rfl⟩
               replace H : (tangramref11_Of.l1 k2 l1 x7_1 x8_1 y308 (wrap64 (x10_2 + 1)) a0_0 l0_1) = some (r1, r2, r3) := by first | (rw [hy308]; with_reducible exact H) | (have H2_ := (Option.bind_some _ _).symm.trans H; rw [hy308]; with_reducible exact H2_) | (have H2_ := (Option.bind_some _ _).symm.trans H; with_reducible exact H2_) | with_reducible exact H | (rw [hy308]; exact H) | exact H
               have Ny308 := Aside0.mk hy308
               clear hy308
               have H' := Aside0.mk H
               clear H
               have p296 : 0 ≤ (x8_1 : Int) := of_decide_eq_true (by first | (with_reducible assumption) | assumption)
               have q296 : x8_1 < (l1.length : Int) := of_decide_eq_true (by first | (with_reducible assumption) | assumption)
               obtain ⟨ad296, A296_0, c296_0, e296, hx296_0, hl296_0, hi296_0⟩ := at_L5 HR1.out x8_1 p296 q296
               cases e296
               replace hx296_0 := (HB.out.cell (World.block_lt_of_cell? w _ hx296_0)).trans hx296_0
               have HR296_0 := Aside0.mk hi296_0
               have HC296_0 := Aside0.mk hl296_0
               clear hi296_0 hl296_0
               replace p296 := eq_true p296
               replace q296 := eq_true q296
               try go_wp2
               have n0_ := Aside0.mk (Kd.S_drew HO_7.out)
               have n1_ := Aside0.mk (Kd.R_drew HO_9.out)
               have n2_ := Aside0.mk (blk_drew BK294.out)
               have n3_ := Aside0.mk (below_drew1 HB.out)
               clear HO_7
               clear HO_9
               clear BK294
               clear HB
               have HO_7 := n0_
               have HO_9 := n1_
               have BK294 := n2_
               have HB := n3_
               clear n0_ n1_ n2_ n3_
               have p301 : 0 ≤ (x8_1 : Int) := of_decide_eq_true (by first | (with_reducible assumption) | assumption)
               have q301 : x8_1 < (l1.length : Int) := of_decide_eq_true (by first | (with_reducible assumption) | assumption)
               obtain ⟨ad301, A301_0, c301_0, e301, hx301_0, hl301_0, hi301_0⟩ := at_L5 HR1.out x8_1 p301 q301
               have hw301_0 := hx301_0
               obtain rfl : ad296 = ad301 := (by injection e301)
               replace hx301_0 := (HB.out.cell (World.block_lt_of_cell? w _ hx301_0)).trans hx301_0
               have HR301_0 := Aside0.mk hi301_0
               have HC301_0 := Aside0.mk hl301_0
               clear hi301_0 hl301_0
               replace p301 := eq_true p301
               replace q301 := eq_true q301
               have p302 : 0 ≤ (x10_2 : Int) := of_decide_eq_true (by first | (with_reducible assumption) | assumption)
               have q302 : x10_2 < ((rd_L5 l1 x8_1).length : Int) := of_decide_eq_true (by first | (with_reducible assumption) | assumption)
               obtain ⟨ad302, e302, hx302_0⟩ := Kd.at_int HR301_0.out x10_2 p302 q302
               have hw302_0 := hx302_0
               cases e302
               replace hx302_0 := (HB.out.cell (World.block_lt_of_cell? w _ hx302_0)).trans hx302_0
               replace p302 := eq_true p302
               replace q302 := eq_true q302
               refine start_ (n := 11) (S := fun w' => w'.cell? ⟨gb294, 0, none⟩ = some (.int .i64 a0_0) ∧ w'.cell? ⟨gb294, 1, none⟩ = some (.slice A0_1 l0_1.length c0_1) ∧ w'.cell? (ad296.add (x8_1).toNat) = some (.slice (some ad302) (rd_L5 l1 x8_1).length c301_0) ∧ w'.cell? (ad302.add (x10_2).toNat) = some (.int .i64 (rd (rd_L5 l1 x8_1) x10_2))) (ds := []) #[false, false, false, false, false, false, false, false, false, false, false] (by kernel_rfl) rfl rfl ⟨(blk_cell BK294.out 0).trans rfl, (blk_cell BK294.out 1).trans rfl, ((HB.out.cell (World.block_lt_of_cell? w _ hw301_0)).trans hw301_0), ((HB.out.cell (World.block_lt_of_cell? w _ hw302_0)).trans hw302_0)⟩ (fun hHeld => ?_); refine with_tabW tangramref11_Of.tab13 tangramref11_Of.bits13 (fun HT_ HW_ => ?_)
               generalize wr.drew = w26 at HO_7 HO_9 BK294 HB HR301_0 hx301_0 hx302_0 hHeld ⊢
               refine pure_ (i := 1) (N := some 36) (v := ?_) (a' := ?_) #[false, true, false, false, false, false, false, false, false, false, false] rfl rfl (any_of HT_.out (by kernel_rfl)) (fun _ _ _ h => h) (Or.inl ⟨by rfl, ?_⟩) ?_ ?_
               rotate_left
               ·intro w'
                go_simp
                with_reducible rfl
               rotate_left
               ·simp only [Act.put, List.setIfInBounds_toArray, List.set_cons_zero, List.set_cons_succ, i64_w, i32_w]
                rfl
               refine pure_ (i := 2) (N := some 37) (v := ?_) (a' := ?_) #[false, true, true, false, false, false, false, false, false, false, false] rfl rfl (any_of HT_.out (by kernel_rfl)) (fun _ _ _ h => h) (Or.inl ⟨by rfl, ?_⟩) ?_ ?_
               rotate_left
               ·intro w'
                go_simp
                with_reducible rfl
               rotate_left
               ·simp only [Act.put, List.setIfInBounds_toArray, List.set_cons_zero, List.set_cons_succ, i64_w, i32_w]
                rfl
               refine pure_ (i := 3) (N := some 38) (v := ?_) (a' := ?_) #[false, true, true, true, false, false, false, false, false, false, false] rfl rfl (any_of HT_.out (by kernel_rfl)) (fun _ _ _ h => h) (Or.inl ⟨by rfl, ?_⟩) ?_ ?_
               rotate_left
               ·intro w'
                go_simp
                with_reducible rfl
               rotate_left
               ·simp only [Act.put, List.setIfInBounds_toArray, List.set_cons_zero, List.set_cons_succ, i64_w, i32_w]
                rfl
               refine pure_ (i := 4) (N := some 39) (v := ?_) (a' := ?_) #[false, true, true, true, true, false, false, false, false, false, false] rfl rfl (any_of HT_.out (by kernel_rfl)) (fun _ _ _ h => h) (Or.inl ⟨by rfl, ?_⟩) ?_ ?_
               rotate_left
               ·intro w'
                go_simp
                with_reducible rfl
               rotate_left
               ·simp only [Act.put, List.setIfInBounds_toArray, List.set_cons_zero, List.set_cons_succ, i64_w, i32_w]
                rfl
               refine pure_ (i := 6) (N := some 41) (v := ?_) (a' := ?_) #[false, true, true, true, true, false, true, false, false, false, false] rfl rfl (any_of HT_.out (by kernel_rfl)) (fun _ _ _ h => h) (Or.inl ⟨by rfl, ?_⟩) ?_ ?_
               rotate_left
               ·intro w'
                go_simp
                with_reducible rfl
               rotate_left
               ·simp only [Act.put, List.setIfInBounds_toArray, List.set_cons_zero, List.set_cons_succ, i64_w, i32_w]
                rfl
               refine take_ (i := 0) (N := some 35) (v := ?_) (a' := ?_) #[true, true, true, true, true, false, true, false, false, false, false] rfl rfl (take_ofW HT_.out HW_.out (by kernel_rfl)) (fun _ _ _ h => h) (Or.inl ⟨by rfl, ?_⟩) hHeld ?_ ?_
               rotate_left
               ·rintro w' ⟨s0, s1, s2, s3⟩
                go_simp
                with_reducible rfl
               rotate_left
               ·simp only [Act.put, List.setIfInBounds_toArray, List.set_cons_zero, List.set_cons_succ, i64_w, i32_w]
                rfl
               refine take_ (i := 5) (N := some 40) (v := ?_) (a' := ?_) #[true, true, true, true, true, true, true, false, false, false, false] rfl rfl (take_ofW HT_.out HW_.out (by kernel_rfl)) (fun _ _ _ h => h) (Or.inl ⟨by rfl, ?_⟩) hHeld ?_ ?_
               rotate_left
               ·rintro w' ⟨s0, s1, s2, s3⟩
                go_simp
                with_reducible rfl
               rotate_left
               ·simp only [Act.put, List.setIfInBounds_toArray, List.set_cons_zero, List.set_cons_succ, i64_w, i32_w]
                rfl
               refine pure_ (i := 7) (N := some 42) (v := ?_) (a' := ?_) #[true, true, true, true, true, true, true, true, false, false, false] rfl rfl (any_of HT_.out (by kernel_rfl)) (fun _ _ _ h => h) (Or.inl ⟨by rfl, ?_⟩) ?_ ?_
               rotate_left
               ·intro w'
                go_simp
                with_reducible rfl
               rotate_left
               ·simp only [Act.put, List.setIfInBounds_toArray, List.set_cons_zero, List.set_cons_succ, i64_w, i32_w]
                rfl
               refine take_ (i := 8) (N := some 43) (v := ?_) (a' := ?_) #[true, true, true, true, true, true, true, true, true, false, false] rfl rfl (take_ofW HT_.out HW_.out (by kernel_rfl)) (fun _ _ _ h => h) (Or.inl ⟨by rfl, ?_⟩) hHeld ?_ ?_
               rotate_left
               ·rintro w' ⟨s0, s1, s2, s3⟩
                go_simp
                with_reducible rfl
               rotate_left
               ·simp only [Act.put, List.setIfInBounds_toArray, List.set_cons_zero, List.set_cons_succ, i64_w, i32_w]
                rfl
               refine one_ (i := 9) (N := some 44) #[true, true, true, true, true, true, true, true, true, true, false] rfl rfl (one_of HT_.out (by kernel_rfl)) (by decide) (fun K hK => ?_)
               refine goes_ Try.func24 (by kernel_rfl) rfl #[.agg #[.int .i64 a0_0, .slice A0_1 l0_1.length c0_1], .int .i64 x8_1, .int .i64 (rd (rd_L5 l1 x8_1) x10_2)] (by rfl) rfl rfl (by (try simp only [List.map_toArray, List.map_cons, List.map_nil]); first | done | rfl | (simp only [List.length_drop, List.length_take]; rfl)) ?_
               with_reducible refine (tangramref11_Half.calls k2 a0_0 _ _ l0_1 x8_1 (rd (rd_L5 l1 x8_1) x10_2) t303 _ ?side1 ?side2 A16.out).mono ?_
               (case side1 => repeat (first | exact (Kd.C_below HR0_1.out HB.out) | (with_reducible refine Kd.C_alloc ?_ _) | (with_reducible refine Kd.C_drewN ?_ _) | (with_reducible refine Kd.C_drew ?_)))
               (case side2 => exact HC0_1.out)
               rintro e w27 ⟨rfl, hb⟩
               refine ⟨_, rfl, ?_⟩
               have n0_ := Aside0.mk (Kd.S_below (by (with_reducible repeat (first | apply Kd.S_alloc | apply Kd.S_drewN | apply Kd.S_drew)); exact HO_7.out) hb)
               have n1_ := Aside0.mk (Kd.R_below (by (with_reducible repeat (first | apply Kd.R_alloc | apply Kd.R_drewN | apply Kd.R_drew)); exact HO_9.out) hb)
               have n2_ := Aside0.mk (blk_below (g := gb294) (o := .cells #[.int .i64 a0_0, .slice A0_1 l0_1.length c0_1] 24 (0, 0)) (by (with_reducible repeat (first | refine blk_drewN ?_ _ | refine blk_drew ?_ | refine blk_alloc ?_ _)); exact BK294.out) hb)
               have n3_ := Aside0.mk (below_step (by repeat (first | (with_reducible first | exact HB.out | apply below_alloc | apply pw_below_drewN | apply below_drew1 | refine below_set ?_ GE294.out) | exact HB.out)) hb)
               clear HO_7
               clear HO_9
               clear BK294
               clear HB
               have HO_7 := n0_
               have HO_9 := n1_
               have BK294 := n2_
               have HB := n3_
               clear n0_ n1_ n2_ n3_
               (try clear hb)
               (try clear hb2)
               (try clear hk)
               (try clear hi)
               refine hK.out _ _ ⟨(blk_cell BK294.out 0).trans rfl, (blk_cell BK294.out 1).trans rfl, ((HB.out.cell (World.block_lt_of_cell? w _ hw301_0)).trans hw301_0), ((HB.out.cell (World.block_lt_of_cell? w _ hw302_0)).trans hw302_0)⟩ (fun hHeld => ?_)
               clear hK K
               refine norm_ (a' := ?_) ?_ ?_
               rotate_left
               ·show Act.put _ (some 44) _ = _
                simp only [Act.put, List.setIfInBounds_toArray, List.set_cons_zero, List.set_cons_succ, i64_w, i32_w]
                rfl
               refine pure_ (i := 10) (N := some 11) (v := ?_) (a' := ?_) #[true, true, true, true, true, true, true, true, true, true, true] rfl rfl (any_of HT_.out (by kernel_rfl)) (fun _ _ _ h => h) (Or.inl ⟨by rfl, ?_⟩) ?_ ?_
               rotate_left
               ·intro w'
                go_simp
                with_reducible rfl
               rotate_left
               ·simp only [Act.put, List.setIfInBounds_toArray, List.set_cons_zero, List.set_cons_succ, i64_w, i32_w]
                rfl
               refine done_ (done_of HT_.out (by kernel_rfl)) ?_
               try go_wp2
               have n0_ := Aside0.mk (Kd.S_drew HO_7.out)
               have n1_ := Aside0.mk (Kd.R_drew HO_9.out)
               have n2_ := Aside0.mk (blk_drew BK294.out)
               have n3_ := Aside0.mk (below_drew1 HB.out)
               clear HO_7
               clear HO_9
               clear BK294
               clear HB
               have HO_7 := n0_
               have HO_9 := n1_
               have BK294 := n2_
               have HB := n3_
               clear n0_ n1_ n2_ n3_
               have p304 : 0 ≤ (x8_1 : Int) := of_decide_eq_true (by first | (with_reducible assumption) | assumption)
               have q304 : x8_1 < (l1.length : Int) := of_decide_eq_true (by first | (with_reducible assumption) | assumption)
               obtain ⟨ad304, A304_0, c304_0, e304, hx304_0, hl304_0, hi304_0⟩ := at_L5 HR1.out x8_1 p304 q304
               have hw304_0 := hx304_0
               obtain rfl : ad296 = ad304 := (by injection e304)
               replace hx304_0 := (HB.out.cell (World.block_lt_of_cell? w _ hx304_0)).trans hx304_0
               have HR304_0 := Aside0.mk hi304_0
               have HC304_0 := Aside0.mk hl304_0
               clear hi304_0 hl304_0
               replace p304 := eq_true p304
               replace q304 := eq_true q304
               have p305 : 0 ≤ (x8_1 : Int) := of_decide_eq_true (by first | (with_reducible assumption) | assumption)
               have q305 : x8_1 < (l1.length : Int) := of_decide_eq_true (by first | (with_reducible assumption) | assumption)
               obtain ⟨ad305, A305_0, c305_0, e305, hx305_0, hl305_0, hi305_0⟩ := at_L5 HR1.out x8_1 p305 q305
               have hw305_0 := hx305_0
               obtain rfl : ad296 = ad305 := (by injection e305)
               replace hx305_0 := (HB.out.cell (World.block_lt_of_cell? w _ hx305_0)).trans hx305_0
               have HR305_0 := Aside0.mk hi305_0
               have HC305_0 := Aside0.mk hl305_0
               clear hi305_0 hl305_0
               replace p305 := eq_true p305
               replace q305 := eq_true q305
               have ea_ := Option.some.inj (hx304_0.symm.trans hx305_0)
               injection ea_ with ea_ en_ ec_
               subst ea_
               subst ec_
               clear en_
               have p306 : 0 ≤ (x10_2 : Int) := of_decide_eq_true (by first | (with_reducible assumption) | assumption)
               have q306 : x10_2 < ((rd_L5 l1 x8_1).length : Int) := of_decide_eq_true (by first | (with_reducible assumption) | assumption)
               obtain ⟨ad306, e306, hx306_0⟩ := Kd.at_int HR305_0.out x10_2 p306 q306
               have hw306_0 := hx306_0
               cases e306
               replace hx306_0 := (HB.out.cell (World.block_lt_of_cell? w _ hx306_0)).trans hx306_0
               replace p306 := eq_true p306
               replace q306 := eq_true q306
               refine start_ (n := 13) (S := fun w' => w'.cell? (ad296.add (x8_1).toNat) = some (.slice (some ad306) (rd_L5 l1 x8_1).length c304_0) ∧ w'.cell? (ad296.add (x8_1).toNat) = some (.slice (some ad306) (rd_L5 l1 x8_1).length c304_0) ∧ w'.cell? (ad306.add (x10_2).toNat) = some (.int .i64 (rd (rd_L5 l1 x8_1) x10_2))) (ds := []) #[false, false, false, false, false, false, false, false, false, false, false, false, false] (by kernel_rfl) rfl rfl ⟨((HB.out.cell (World.block_lt_of_cell? w _ hw304_0)).trans hw304_0), ((HB.out.cell (World.block_lt_of_cell? w _ hw305_0)).trans hw305_0), ((HB.out.cell (World.block_lt_of_cell? w _ hw306_0)).trans hw306_0)⟩ (fun hHeld => ?_); refine with_tabW tangramref11_Of.tab16 tangramref11_Of.bits16 (fun HT_ HW_ => ?_)
               generalize w27.drew = w28 at HO_7 HO_9 BK294 HB HR304_0 HR305_0 hx304_0 hx305_0 hx306_0 hHeld ⊢
               refine pure_ (i := 0) (N := some 48) (v := ?_) (a' := ?_) #[true, false, false, false, false, false, false, false, false, false, false, false, false] rfl rfl (any_of HT_.out (by kernel_rfl)) (fun _ _ _ h => h) (Or.inl ⟨by rfl, ?_⟩) ?_ ?_
               rotate_left
               ·intro w'
                go_simp
                with_reducible rfl
               rotate_left
               ·simp only [Act.put, List.setIfInBounds_toArray, List.set_cons_zero, List.set_cons_succ, i64_w, i32_w]
                rfl
               refine pure_ (i := 1) (N := some 49) (v := ?_) (a' := ?_) #[true, true, false, false, false, false, false, false, false, false, false, false, false] rfl rfl (any_of HT_.out (by kernel_rfl)) (fun _ _ _ h => h) (Or.inl ⟨by rfl, ?_⟩) ?_ ?_
               rotate_left
               ·intro w'
                go_simp
                with_reducible rfl
               rotate_left
               ·simp only [Act.put, List.setIfInBounds_toArray, List.set_cons_zero, List.set_cons_succ, i64_w, i32_w]
                rfl
               refine pure_ (i := 2) (N := some 50) (v := ?_) (a' := ?_) #[true, true, true, false, false, false, false, false, false, false, false, false, false] rfl rfl (any_of HT_.out (by kernel_rfl)) (fun _ _ _ h => h) (Or.inl ⟨by rfl, ?_⟩) ?_ ?_
               rotate_left
               ·intro w'
                go_simp
                with_reducible rfl
               rotate_left
               ·simp only [Act.put, List.setIfInBounds_toArray, List.set_cons_zero, List.set_cons_succ, i64_w, i32_w]
                rfl
               refine pure_ (i := 4) (N := some 52) (v := ?_) (a' := ?_) #[true, true, true, false, true, false, false, false, false, false, false, false, false] rfl rfl (any_of HT_.out (by kernel_rfl)) (fun _ _ _ h => h) (Or.inl ⟨by rfl, ?_⟩) ?_ ?_
               rotate_left
               ·intro w'
                go_simp
                with_reducible rfl
               rotate_left
               ·simp only [Act.put, List.setIfInBounds_toArray, List.set_cons_zero, List.set_cons_succ, i64_w, i32_w]
                rfl
               refine pure_ (i := 5) (N := some 53) (v := ?_) (a' := ?_) #[true, true, true, false, true, true, false, false, false, false, false, false, false] rfl rfl (any_of HT_.out (by kernel_rfl)) (fun _ _ _ h => h) (Or.inl ⟨by rfl, ?_⟩) ?_ ?_
               rotate_left
               ·intro w'
                go_simp
                with_reducible rfl
               rotate_left
               ·simp only [Act.put, List.setIfInBounds_toArray, List.set_cons_zero, List.set_cons_succ, i64_w, i32_w]
                rfl
               refine pure_ (i := 6) (N := some 54) (v := ?_) (a' := ?_) #[true, true, true, false, true, true, true, false, false, false, false, false, false] rfl rfl (any_of HT_.out (by kernel_rfl)) (fun _ _ _ h => h) (Or.inl ⟨by rfl, ?_⟩) ?_ ?_
               rotate_left
               ·intro w'
                go_simp
                with_reducible rfl
               rotate_left
               ·simp only [Act.put, List.setIfInBounds_toArray, List.set_cons_zero, List.set_cons_succ, i64_w, i32_w]
                rfl
               refine pure_ (i := 7) (N := some 55) (v := ?_) (a' := ?_) #[true, true, true, false, true, true, true, true, false, false, false, false, false] rfl rfl (any_of HT_.out (by kernel_rfl)) (fun _ _ _ h => h) (Or.inl ⟨by rfl, ?_⟩) ?_ ?_
               rotate_left
               ·intro w'
                go_simp
                with_reducible rfl
               rotate_left
               ·simp only [Act.put, List.setIfInBounds_toArray, List.set_cons_zero, List.set_cons_succ, i64_w, i32_w]
                rfl
               refine pure_ (i := 9) (N := some 57) (v := ?_) (a' := ?_) #[true, true, true, false, true, true, true, true, false, true, false, false, false] rfl rfl (any_of HT_.out (by kernel_rfl)) (fun _ _ _ h => h) (Or.inl ⟨by rfl, ?_⟩) ?_ ?_
               rotate_left
               ·intro w'
                go_simp
                with_reducible rfl
               rotate_left
               ·simp only [Act.put, List.setIfInBounds_toArray, List.set_cons_zero, List.set_cons_succ, i64_w, i32_w]
                rfl
               refine take_ (i := 3) (N := some 51) (v := ?_) (a' := ?_) #[true, true, true, true, true, true, true, true, false, true, false, false, false] rfl rfl (take_ofW HT_.out HW_.out (by kernel_rfl)) (fun _ _ _ h => h) (Or.inl ⟨by rfl, ?_⟩) hHeld ?_ ?_
               rotate_left
               ·rintro w' ⟨s0, s1, s2⟩
                go_simp
                with_reducible rfl
               rotate_left
               ·simp only [Act.put, List.setIfInBounds_toArray, List.set_cons_zero, List.set_cons_succ, i64_w, i32_w]
                rfl
               refine take_ (i := 8) (N := some 56) (v := ?_) (a' := ?_) #[true, true, true, true, true, true, true, true, true, true, false, false, false] rfl rfl (take_ofW HT_.out HW_.out (by kernel_rfl)) (fun _ _ _ h => h) (Or.inl ⟨by rfl, ?_⟩) hHeld ?_ ?_
               rotate_left
               ·rintro w' ⟨s0, s1, s2⟩
                go_simp
                with_reducible rfl
               rotate_left
               ·simp only [Act.put, List.setIfInBounds_toArray, List.set_cons_zero, List.set_cons_succ, i64_w, i32_w]
                rfl
               refine pure_ (i := 10) (N := some 58) (v := ?_) (a' := ?_) #[true, true, true, true, true, true, true, true, true, true, true, false, false] rfl rfl (any_of HT_.out (by kernel_rfl)) (fun _ _ _ h => h) (Or.inl ⟨by rfl, ?_⟩) ?_ ?_
               rotate_left
               ·intro w'
                go_simp
                with_reducible rfl
               rotate_left
               ·simp only [Act.put, List.setIfInBounds_toArray, List.set_cons_zero, List.set_cons_succ, i64_w, i32_w]
                rfl
               refine take_ (i := 11) (N := some 59) (v := ?_) (a' := ?_) #[true, true, true, true, true, true, true, true, true, true, true, true, false] rfl rfl (take_ofW HT_.out HW_.out (by kernel_rfl)) (fun _ _ _ h => h) (Or.inl ⟨by rfl, ?_⟩) hHeld ?_ ?_
               rotate_left
               ·rintro w' ⟨s0, s1, s2⟩
                go_simp
                with_reducible rfl
               rotate_left
               ·simp only [Act.put, List.setIfInBounds_toArray, List.set_cons_zero, List.set_cons_succ, i64_w, i32_w]
                rfl
               refine one_ (i := 12) (N := some 60) #[true, true, true, true, true, true, true, true, true, true, true, true, true] rfl rfl (one_of HT_.out (by kernel_rfl)) (by decide) (fun K hK => ?_)
               refine goes_ Try.func50 (by kernel_rfl) rfl #[.slice (some ad306) (rd_L5 l1 x8_1).length c304_0, .int .i64 x10_2, .int .i64 (rd (rd_L5 l1 x8_1) x10_2)] (by rfl) rfl rfl (by (try simp only [List.map_toArray, List.map_cons, List.map_nil]); first | done | rfl | (simp only [List.length_drop, List.length_take]; rfl)) ?_
               with_reducible refine (tangramref11_stands.calls k2 _ _ (rd_L5 l1 x8_1) x10_2 (rd (rd_L5 l1 x8_1) x10_2) false _ ?side1 ?side2 A20.out).mono ?_
               (case side1 => repeat (first | exact (Kd.C_below HR304_0.out HB.out) | (with_reducible refine Kd.C_alloc ?_ _) | (with_reducible refine Kd.C_drewN ?_ _) | (with_reducible refine Kd.C_drew ?_)))
               (case side2 => exact HC304_0.out)
               rintro e w' ⟨rfl, ⟨nd, rfl⟩⟩
               refine ⟨_, rfl, ?_⟩
               refine hK.out _ _ ⟨((HB.out.cell (World.block_lt_of_cell? w _ hw304_0)).trans hw304_0), ((HB.out.cell (World.block_lt_of_cell? w _ hw305_0)).trans hw305_0), ((HB.out.cell (World.block_lt_of_cell? w _ hw306_0)).trans hw306_0)⟩ (fun hHeld => ?_)
               clear hK K
               refine norm_ (a' := ?_) ?_ ?_
               rotate_left
               ·show Act.put _ (some 60) _ = _
                simp only [Act.put, List.setIfInBounds_toArray, List.set_cons_zero, List.set_cons_succ, i64_w, i32_w]
                rfl
               refine done_ (done_of HT_.out (by kernel_rfl)) ?_
               try go_wp2_with (first | ((with_reducible refine gate_builtin (b := .append) (xs := #[.tmp 62, .tmp 64]) rfl ?_); at_builtin; refine Kd.R_append (Kd.int .i64) (w0 := w) w.heap.size rfl (.tmp 62) (.tmp 64) 32 3 (.int .i64 0) 8 rfl Try.underlying32 info3 rfl (by decide) (by omega) u9 x9_2 t303 [.int .i64 t303] (fun _ => True) (fun _ => False) rfl rfl ?aP (fun _ hk => hk.elim) ?aF ?aO ?aB ?aS ?aL ?_; (case aP => exact rfl); (case aB => exact (by repeat (first | (with_reducible first | exact HB.out | apply below_alloc | apply pw_below_drewN | apply below_drew1 | refine below_set ?_ GE294.out) | exact HB.out))); (case aF => exact (fun _ _ => trivial)); (case aO => exact (by (with_reducible repeat (first | apply Kd.R_alloc | apply Kd.R_drewN | apply Kd.R_drew)); exact HO_9.out)); (case aS => exact (below_size (by repeat (first | (with_reducible first | exact HB.out | apply below_alloc | apply pw_below_drewN | apply below_drew1 | refine below_set ?_ GE294.out) | exact HB.out)))); (case aL => have := LMc25.out; omega); intro v309 w29 ho hb hg hat; rw [← Ny308.out] at ho; have n0_ := Aside0.mk (Kd.S_after (ok := (fun _ => True)) (by (with_reducible repeat (first | apply Kd.S_alloc | apply Kd.S_drewN | apply Kd.S_drew)); exact Kd.S_mono HO_7.out (fun _ hk => ⟨trivial, hk⟩)) hg hat); have n1_ := Aside0.mk (blk_grown (g := gb294) (o := .cells #[.int .i64 a0_0, .slice A0_1 l0_1.length c0_1] 24 (0, 0)) (by (with_reducible repeat (first | refine blk_drewN ?_ _ | refine blk_drew ?_ | refine blk_alloc ?_ _)); exact BK294.out) hg (Kd.R_ne HO_9.out BK294.out (by decide))); have n2_ := Aside0.mk (hb); have n3_ := Aside0.mk (ho); clear HO_7; clear BK294; clear HB; clear HO_9; have HO_7 := n0_; have BK294 := n1_; have HB := n2_; have HO310 := n3_; clear n0_ n1_ n2_ n3_; clear ho hb hg hat))
               go_roundg k2
               case measure => have := HK1.out; have := HK2.out; omega
               case rel => exact ⟨(y308), (wrap64 (x10_2 + 1)), (by first | rfl | (simp; done) | (simp [*]; done)), H', ⟨by have := HK1.out; have := HK2.out; omega⟩, ⟨by (with_reducible repeat (first | apply Kd.S_alloc | apply Kd.S_drewN | apply Kd.S_drew)); exact Kd.S_mono HO_7.out (fun _ hk => hk.2)⟩, ⟨by (with_reducible repeat (first | apply Kd.R_alloc | apply Kd.R_drewN | apply Kd.R_drew)); exact HO310.out⟩, ⟨by (with_reducible repeat (first | refine blk_drewN ?_ _ | refine blk_drew ?_ | refine blk_alloc ?_ _)); exact BK294.out⟩, ⟨by repeat (first | (with_reducible first | exact HB.out | apply below_alloc | apply pw_below_drewN | apply below_drew1 | refine below_set ?_ GE294.out) | exact HB.out)⟩⟩
              ·rw [if_neg c25] at H
               exact absurd H (by simp)
           ·rw [if_neg c15] at H
            exact absurd H (by simp)
          ·rw [if_neg c14] at H
           have c14b0 : decide (x10_2 < ((rd_L5 l1 x8_1).length : Int)) = false := decide_eq_false c14
           clear c14
           replace H := Option.bind_eq_some_iff.mp H
           obtain ⟨t297, A300, H⟩ := H
           replace H : (if (x9_2.length : Int) < t297 then (some (([] : List (List Int)), x8_1, 113)) else (if x7_1.length < 5864062014805 then (tangramref11_Of.l0 k2 l1 (x7_1 ++ [x9_2]) (wrap64 (x8_1 + 1)) a0_0 l0_1) else (none))) = some (r1, r2, r3) := H
           have A30 := Aside0.mk A300
           clear A300
           by_cases c31 : (x9_2.length : Int) < t297
           ·rw [if_pos c31] at H
            have c31b0 : decide ((x9_2.length : Int) < t297) = true := decide_eq_true c31
            clear c31
            simp only [Option.some.injEq, Prod.mk.injEq] at H
            obtain ⟨rfl, rfl, rfl⟩ := H
            have p296 : 0 ≤ (x8_1 : Int) := of_decide_eq_true (by first | (with_reducible assumption) | assumption)
            have q296 : x8_1 < (l1.length : Int) := of_decide_eq_true (by first | (with_reducible assumption) | assumption)
            obtain ⟨ad296, A296_0, c296_0, e296, hx296_0, hl296_0, hi296_0⟩ := at_L5 HR1.out x8_1 p296 q296
            cases e296
            replace hx296_0 := (HB.out.cell (World.block_lt_of_cell? w _ hx296_0)).trans hx296_0
            have HR296_0 := Aside0.mk hi296_0
            have HC296_0 := Aside0.mk hl296_0
            clear hi296_0 hl296_0
            replace p296 := eq_true p296
            replace q296 := eq_true q296
            obtain ⟨Ao32, co32, eo32⟩ := Kd.R_slice HO_9.out
            subst eo32
            have hcz33_0 : wr.cell? ⟨gb294, 0, none⟩ = some (.int .i64 a0_0) := (blk_cell BK294.out 0).trans rfl
            have hcz33_1 : wr.cell? ⟨gb294, 1, none⟩ = some (.slice A0_1 l0_1.length c0_1) := (blk_cell BK294.out 1).trans rfl
            have hfz33_0 := blk_frozen BK294.out 0
            have hfz33_1 := blk_frozen BK294.out 1
            go_wp2_with (first | ((with_reducible refine gate_callee (f := 51) rfl ?_); refine goesL_ (some 70) rfl rfl Try.func51 (by kernel_rfl) rfl #[.agg #[.int .i64 a0_0, .slice A0_1 l0_1.length c0_1], .int .i64 x8_1] rfl (by (try simp only [List.map_toArray, List.map_cons, List.map_nil]); first | done | rfl | (simp only [List.length_drop, List.length_take]; rfl)) ?_; (with_reducible refine (tangramref11_degree.calls k2 a0_0 _ _ l0_1 x8_1 t297 _ ?side1 ?side2 A30.out).mono ?_); (case side1 => repeat (first | exact (Kd.C_below HR0_1.out HB.out) | (with_reducible refine Kd.C_alloc ?_ _) | (with_reducible refine Kd.C_drewN ?_ _) | (with_reducible refine Kd.C_drew ?_))); (case side2 => exact HC0_1.out); rintro e w34 ⟨rfl, hb⟩; refine ⟨_, rfl, ?_⟩; have n0_ := Aside0.mk (Kd.S_below (by (with_reducible repeat (first | apply Kd.S_alloc | apply Kd.S_drewN | apply Kd.S_drew)); exact HO_7.out) hb); have n1_ := Aside0.mk (Kd.R_below (by (with_reducible repeat (first | apply Kd.R_alloc | apply Kd.R_drewN | apply Kd.R_drew)); exact HO_9.out) hb); have n2_ := Aside0.mk (blk_below (g := gb294) (o := .cells #[.int .i64 a0_0, .slice A0_1 l0_1.length c0_1] 24 (0, 0)) (by (with_reducible repeat (first | refine blk_drewN ?_ _ | refine blk_drew ?_ | refine blk_alloc ?_ _)); exact BK294.out) hb); have n3_ := Aside0.mk (below_step (by repeat (first | (with_reducible first | exact HB.out | apply below_alloc | apply pw_below_drewN | apply below_drew1 | refine below_set ?_ GE294.out) | exact HB.out)) hb); clear HO_7; clear HO_9; clear BK294; clear HB; have HO_7 := n0_; have HO_9 := n1_; have BK294 := n2_; have HB := n3_; clear n0_ n1_ n2_ n3_; (try clear hb); (try clear hb2); (try clear hk); (try clear hi)))
            go_ret3
            exact ⟨_, by first | rfl | (simp [errW_none, errW_some] <;> rfl) | (simp [*, errW_none, errW_some] <;> rfl), by first | exact Kd.S_nil _ _ _ _ _ | exact Kd.N_nil _ _ _ _ _ | exact Kd.V_nil _ _ _ _ _ | exact Kd.Q_nil _ _ _ _ _ | exact Kd.R_nil _ _ _ _ _, by repeat (first | (with_reducible first | exact HB.out | apply below_alloc | apply pw_below_drewN | apply below_drew1 | refine below_set ?_ GE294.out) | exact HB.out)⟩
           ·rw [if_neg c31] at H
            have c31b0 : decide ((x9_2.length : Int) < t297) = false := decide_eq_false c31
            clear c31
            by_cases c35 : x7_1.length < 5864062014805
            ·rw [if_pos c35] at H
             have LMc35 := Aside0.mk c35
             clear c35
             obtain ⟨y298, hy298⟩ : ∃ y_ : List (List Int), y_ = (x7_1 ++ [x9_2]) := ⟨_, rfl⟩
             replace H : (tangramref11_Of.l0 k2 l1 y298 (wrap64 (x8_1 + 1)) a0_0 l0_1) = some (r1, r2, r3) := by first | (rw [hy298]; with_reducible exact H) | (have H2_ := (Option.bind_some _ _).symm.trans H; rw [hy298]; with_reducible exact H2_) | (have H2_ := (Option.bind_some _ _).symm.trans H; with_reducible exact H2_) | with_reducible exact H | (rw [hy298]; exact H) | exact H
             have Ny298 := Aside0.mk hy298
             clear hy298
             have H' := Aside0.mk H
             clear H
             have p296 : 0 ≤ (x8_1 : Int) := of_decide_eq_true (by first | (with_reducible assumption) | assumption)
             have q296 : x8_1 < (l1.length : Int) := of_decide_eq_true (by first | (with_reducible assumption) | assumption)
             obtain ⟨ad296, A296_0, c296_0, e296, hx296_0, hl296_0, hi296_0⟩ := at_L5 HR1.out x8_1 p296 q296
             cases e296
             replace hx296_0 := (HB.out.cell (World.block_lt_of_cell? w _ hx296_0)).trans hx296_0
             have HR296_0 := Aside0.mk hi296_0
             have HC296_0 := Aside0.mk hl296_0
             clear hi296_0 hl296_0
             replace p296 := eq_true p296
             replace q296 := eq_true q296
             obtain ⟨Ao36, co36, eo36⟩ := Kd.R_slice HO_9.out
             subst eo36
             have hcz37_0 : wr.cell? ⟨gb294, 0, none⟩ = some (.int .i64 a0_0) := (blk_cell BK294.out 0).trans rfl
             have hcz37_1 : wr.cell? ⟨gb294, 1, none⟩ = some (.slice A0_1 l0_1.length c0_1) := (blk_cell BK294.out 1).trans rfl
             have hfz37_0 := blk_frozen BK294.out 0
             have hfz37_1 := blk_frozen BK294.out 1
             go_wp2_with (first | ((with_reducible refine gate_callee (f := 51) rfl ?_); refine goesL_ (some 70) rfl rfl Try.func51 (by kernel_rfl) rfl #[.agg #[.int .i64 a0_0, .slice A0_1 l0_1.length c0_1], .int .i64 x8_1] rfl (by (try simp only [List.map_toArray, List.map_cons, List.map_nil]); first | done | rfl | (simp only [List.length_drop, List.length_take]; rfl)) ?_; (with_reducible refine (tangramref11_degree.calls k2 a0_0 _ _ l0_1 x8_1 t297 _ ?side1 ?side2 A30.out).mono ?_); (case side1 => repeat (first | exact (Kd.C_below HR0_1.out HB.out) | (with_reducible refine Kd.C_alloc ?_ _) | (with_reducible refine Kd.C_drewN ?_ _) | (with_reducible refine Kd.C_drew ?_))); (case side2 => exact HC0_1.out); rintro e w38 ⟨rfl, hb⟩; refine ⟨_, rfl, ?_⟩; have n0_ := Aside0.mk (Kd.S_below (by (with_reducible repeat (first | apply Kd.S_alloc | apply Kd.S_drewN | apply Kd.S_drew)); exact HO_7.out) hb); have n1_ := Aside0.mk (Kd.R_below (by (with_reducible repeat (first | apply Kd.R_alloc | apply Kd.R_drewN | apply Kd.R_drew)); exact HO_9.out) hb); have n2_ := Aside0.mk (blk_below (g := gb294) (o := .cells #[.int .i64 a0_0, .slice A0_1 l0_1.length c0_1] 24 (0, 0)) (by (with_reducible repeat (first | refine blk_drewN ?_ _ | refine blk_drew ?_ | refine blk_alloc ?_ _)); exact BK294.out) hb); have n3_ := Aside0.mk (below_step (by repeat (first | (with_reducible first | exact HB.out | apply below_alloc | apply pw_below_drewN | apply below_drew1 | refine below_set ?_ GE294.out) | exact HB.out)) hb); clear HO_7; clear HO_9; clear BK294; clear HB; have HO_7 := n0_; have HO_9 := n1_; have BK294 := n2_; have HB := n3_; clear n0_ n1_ n2_ n3_; (try clear hb); (try clear hb2); (try clear hk); (try clear hi)) | ((with_reducible refine gate_builtin (b := .append) (xs := #[.tmp 73, .tmp 75]) rfl ?_); at_builtin; refine Kd.S_append (Kd.slice 3 (Kd.int .i64)) (w0 := w) w.heap.size rfl (.tmp 73) (.tmp 75) 26 32 (.slice none 0 0) 24 rfl Try.underlying26 info32 rfl (by decide) (by omega) u7 x7_1 x9_2 [.slice Ao36 x9_2.length co36] (fun _ => True) (fun k_ => some k_ = (.slice Ao36 x9_2.length co36 : Value).ownBlock) rfl rfl ?aP (fun k_ hk_ => ((Kd.R_mono (ok' := fun k_ => ((fun _ => True)) k_ ∧ some k_ ≠ (u7 : Value).ownBlock) (Kd.R_apart' (HO_9.out) (Kd.S_typed HO_7.out) (by decide)) (fun k_ hk => ⟨trivial, hk.2⟩))).1 k_ hk_.symm) ?aF ?aO ?aB ?aS ?aL ?_; (case aP => exact Kd.M_row (Kd.R_mono (Kd.R_tight rfl (Kd.R_mono (ok' := fun k_ => ((fun _ => True)) k_ ∧ some k_ ≠ (u7 : Value).ownBlock) (Kd.R_apart' (HO_9.out) (Kd.S_typed HO_7.out) (by decide)) (fun k_ hk => ⟨trivial, hk.2⟩))) (fun _ h_ => h_))); (case aB => exact (by repeat (first | (with_reducible first | exact HB.out | apply below_alloc | apply pw_below_drewN | apply below_drew1 | refine below_set ?_ GE294.out) | exact HB.out))); (case aF => exact (fun _ _ => trivial)); (case aO => exact (by (with_reducible repeat (first | apply Kd.S_alloc | apply Kd.S_drewN | apply Kd.S_drew)); exact Kd.S_mono HO_7.out (fun k_ hk => ⟨trivial, fun e_ => hk e_⟩))); (case aS => exact (below_size (by repeat (first | (with_reducible first | exact HB.out | apply below_alloc | apply pw_below_drewN | apply below_drew1 | refine below_set ?_ GE294.out) | exact HB.out)))); (case aL => have := LMc35.out; omega); intro v299 w39 ho hb hg hat; rw [← Ny298.out] at ho; have n0_ := Aside0.mk (blk_grown (g := gb294) (o := .cells #[.int .i64 a0_0, .slice A0_1 l0_1.length c0_1] 24 (0, 0)) (by (with_reducible repeat (first | refine blk_drewN ?_ _ | refine blk_drew ?_ | refine blk_alloc ?_ _)); exact BK294.out) hg (Kd.S_ne HO_7.out BK294.out (by decide))); have n1_ := Aside0.mk (hb); have n2_ := Aside0.mk (ho); clear BK294; clear HB; clear HO_7; clear HO_9; have BK294 := n0_; have HB := n1_; have HO300 := n2_; clear n0_ n1_ n2_; clear ho hb hg hat))
             go_roundg k2
             case measure => have := HK1.out; have := HK2.out; omega
             case rel => exact ⟨(y298), (wrap64 (x8_1 + 1)), (by first | rfl | (simp; done) | (simp [*]; done)), H', ⟨by have := HK1.out; have := HK2.out; omega⟩, ⟨by (with_reducible repeat (first | apply Kd.S_alloc | apply Kd.S_drewN | apply Kd.S_drew)); exact HO300.out⟩, ⟨by (with_reducible repeat (first | refine blk_drewN ?_ _ | refine blk_drew ?_ | refine blk_alloc ?_ _)); exact BK294.out⟩, ⟨by repeat (first | (with_reducible first | exact HB.out | apply below_alloc | apply pw_below_drewN | apply below_drew1 | refine below_set ?_ GE294.out) | exact HB.out)⟩⟩
            ·rw [if_neg c35] at H
             exact absurd H (by simp)
         ·rw [if_neg c13] at H
          exact absurd H (by simp)
        ·rw [if_neg c12] at H
         exact absurd H (by simp)
     ·rw [if_neg c10] at H
      have c10b0 : decide (x8_1 < a0_0) = false := decide_eq_false c10
      clear c10
      simp only [Option.some.injEq, Prod.mk.injEq] at H
      obtain ⟨rfl, rfl, rfl⟩ := H
      have hcz40_0 : wr.cell? ⟨gb294, 0, none⟩ = some (.int .i64 a0_0) := (blk_cell BK294.out 0).trans rfl
      have hcz40_1 : wr.cell? ⟨gb294, 1, none⟩ = some (.slice A0_1 l0_1.length c0_1) := (blk_cell BK294.out 1).trans rfl
      have hfz40_0 := blk_frozen BK294.out 0
      have hfz40_1 := blk_frozen BK294.out 1
      go_wp2
      go_ret3
      exact ⟨_, by first | rfl | (simp [errW_none, errW_some] <;> rfl) | (simp [*, errW_none, errW_some] <;> rfl), by (with_reducible repeat (first | apply Kd.S_alloc | apply Kd.S_drewN | apply Kd.S_drew)); exact HO_7.out, by repeat (first | (with_reducible first | exact HB.out | apply below_alloc | apply pw_below_drewN | apply below_drew1 | refine below_set ?_ GE294.out) | exact HB.out)⟩
  ·rw [if_neg c5] at H
   have c5b0 : ((l1.length : Int) == a0_0) = false := beq_eq_false_iff_ne.mpr c5
   have c5b1 : ((l1.length : Int) != a0_0) = true := bne_iff_ne.mpr c5
   simp only [Option.some.injEq, Prod.mk.injEq] at H
   obtain ⟨rfl, rfl, rfl⟩ := H
   go_enter Try.func28, Try.ntmps28
   go_wp2_with (first | ((with_reducible refine gate_dst (N := 2) rfl ?_); refine box_event ?hg (N := 2) ?hd (cs := #[.int .i64 a0_0, .slice A0_1 l0_1.length c0_1]) (t := 24) ?hr ?_; (case hd => rfl); (case hg => rfl); (case hr => first | (go_simp; done) | (go_simp; rfl)); intro gb294 hg w41 hbox hb; have n0_ := Aside0.mk (below_step (by repeat (first | (with_reducible first | exact HB.out | apply below_alloc | apply pw_below_drewN | apply below_drew1) | exact HB.out)) hb); have n1_ := Aside0.mk (hbox); have n2_ := Aside0.mk ((by rw [hg]; exact (below_size (by repeat (first | (with_reducible first | exact HB.out | apply below_alloc | apply pw_below_drewN | apply below_drew1) | exact HB.out))) : w.heap.size ≤ gb294)); have n3_ := Aside0.mk ((by rw [hg]; exact (below_size (by repeat (first | (with_reducible first | exact HB.out | apply below_alloc | apply pw_below_drewN | apply below_drew1) | exact HB.out))) : w.heap.size ≤ gb294)); clear HB; have HB := n0_; have BK294 := n1_; have GW294 := n2_; have GE294 := n3_; clear n0_ n1_ n2_ n3_; clear hb hbox hg; have hcz42_0 : w41.cell? ⟨gb294, 0, none⟩ = some (.int .i64 a0_0) := (blk_cell BK294.out 0).trans rfl; have hcz42_1 : w41.cell? ⟨gb294, 1, none⟩ = some (.slice A0_1 l0_1.length c0_1) := (blk_cell BK294.out 1).trans rfl; have hfz42_0 := blk_frozen BK294.out 0; have hfz42_1 := blk_frozen BK294.out 1) | ((with_reducible refine gate_callee (f := 49) rfl ?_); refine goesL_ (some 13) rfl rfl Try.func49 (by kernel_rfl) rfl #[.agg #[.int .i64 a0_0, .slice A0_1 l0_1.length c0_1]] rfl (by (try simp only [List.map_toArray, List.map_cons, List.map_nil]); first | done | rfl | (simp only [List.length_drop, List.length_take]; rfl)) ?_; (with_reducible refine (tangramref03_Valid.calls k a0_0 _ _ l0_1 true _ ?side1 ?side2 A3.out).mono ?_); (case side1 => repeat (first | exact (Kd.C_below HR0_1.out HB.out) | (with_reducible refine Kd.C_alloc ?_ _) | (with_reducible refine Kd.C_drewN ?_ _) | (with_reducible refine Kd.C_drew ?_))); (case side2 => exact HC0_1.out); rintro e w43 ⟨rfl, hb⟩; refine ⟨_, rfl, ?_⟩; have n0_ := Aside0.mk (blk_below (g := gb294) (o := .cells #[.int .i64 a0_0, .slice A0_1 l0_1.length c0_1] 24 (0, 0)) (by (with_reducible repeat (first | refine blk_drewN ?_ _ | refine blk_drew ?_ | refine blk_alloc ?_ _)); exact BK294.out) hb); have n1_ := Aside0.mk (below_step (by repeat (first | (with_reducible first | exact HB.out | apply below_alloc | apply pw_below_drewN | apply below_drew1 | refine below_set ?_ GE294.out) | exact HB.out)) hb); clear BK294; clear HB; have BK294 := n0_; have HB := n1_; clear n0_ n1_; (try clear hb); (try clear hb2); (try clear hk); (try clear hi); have hcz44_0 : w43.cell? ⟨gb294, 0, none⟩ = some (.int .i64 a0_0) := (blk_cell BK294.out 0).trans rfl; have hcz44_1 : w43.cell? ⟨gb294, 1, none⟩ = some (.slice A0_1 l0_1.length c0_1) := (blk_cell BK294.out 1).trans rfl; have hfz44_0 := blk_frozen BK294.out 0; have hfz44_1 := blk_frozen BK294.out 1))
   go_ret3
   exact ⟨_, by first | rfl | (simp [errW_none, errW_some] <;> rfl) | (simp [*, errW_none, errW_some] <;> rfl), by first | exact Kd.S_nil _ _ _ _ _ | exact Kd.N_nil _ _ _ _ _ | exact Kd.V_nil _ _ _ _ _ | exact Kd.Q_nil _ _ _ _ _ | exact Kd.R_nil _ _ _ _ _, by repeat (first | (with_reducible first | exact HB.out | apply below_alloc | apply pw_below_drewN | apply below_drew1 | refine below_set ?_ GE294.out) | exact HB.out)⟩
 ·replace c4 := Bool.eq_false_iff.mpr c4
  subst c4
  have H1 : (some (([] : List (List Int)), 0, 1)) = some (r1, r2, r3) := by rw [if_neg (show ¬ (false = true) by decide)] at H; exact H
  clear H
  have H := H1
  clear H1
  simp only [Option.some.injEq, Prod.mk.injEq] at H
  obtain ⟨rfl, rfl, rfl⟩ := H
  go_enter Try.func28, Try.ntmps28
  go_wp2_with (first | ((with_reducible refine gate_dst (N := 2) rfl ?_); refine box_event ?hg (N := 2) ?hd (cs := #[.int .i64 a0_0, .slice A0_1 l0_1.length c0_1]) (t := 24) ?hr ?_; (case hd => rfl); (case hg => rfl); (case hr => first | (go_simp; done) | (go_simp; rfl)); intro gb294 hg w45 hbox hb; have n0_ := Aside0.mk (below_step (by repeat (first | (with_reducible first | exact HB.out | apply below_alloc | apply pw_below_drewN | apply below_drew1) | exact HB.out)) hb); have n1_ := Aside0.mk (hbox); have n2_ := Aside0.mk ((by rw [hg]; exact (below_size (by repeat (first | (with_reducible first | exact HB.out | apply below_alloc | apply pw_below_drewN | apply below_drew1) | exact HB.out))) : w.heap.size ≤ gb294)); have n3_ := Aside0.mk ((by rw [hg]; exact (below_size (by repeat (first | (with_reducible first | exact HB.out | apply below_alloc | apply pw_below_drewN | apply below_drew1) | exact HB.out))) : w.heap.size ≤ gb294)); clear HB; have HB := n0_; have BK294 := n1_; have GW294 := n2_; have GE294 := n3_; clear n0_ n1_ n2_ n3_; clear hb hbox hg; have hcz46_0 : w45.cell? ⟨gb294, 0, none⟩ = some (.int .i64 a0_0) := (blk_cell BK294.out 0).trans rfl; have hcz46_1 : w45.cell? ⟨gb294, 1, none⟩ = some (.slice A0_1 l0_1.length c0_1) := (blk_cell BK294.out 1).trans rfl; have hfz46_0 := blk_frozen BK294.out 0; have hfz46_1 := blk_frozen BK294.out 1) | ((with_reducible refine gate_callee (f := 49) rfl ?_); refine goesL_ (some 13) rfl rfl Try.func49 (by kernel_rfl) rfl #[.agg #[.int .i64 a0_0, .slice A0_1 l0_1.length c0_1]] rfl (by (try simp only [List.map_toArray, List.map_cons, List.map_nil]); first | done | rfl | (simp only [List.length_drop, List.length_take]; rfl)) ?_; (with_reducible refine (tangramref03_Valid.calls k a0_0 _ _ l0_1 false _ ?side1 ?side2 A3.out).mono ?_); (case side1 => repeat (first | exact (Kd.C_below HR0_1.out HB.out) | (with_reducible refine Kd.C_alloc ?_ _) | (with_reducible refine Kd.C_drewN ?_ _) | (with_reducible refine Kd.C_drew ?_))); (case side2 => exact HC0_1.out); rintro e w47 ⟨rfl, hb⟩; refine ⟨_, rfl, ?_⟩; have n0_ := Aside0.mk (blk_below (g := gb294) (o := .cells #[.int .i64 a0_0, .slice A0_1 l0_1.length c0_1] 24 (0, 0)) (by (with_reducible repeat (first | refine blk_drewN ?_ _ | refine blk_drew ?_ | refine blk_alloc ?_ _)); exact BK294.out) hb); have n1_ := Aside0.mk (below_step (by repeat (first | (with_reducible first | exact HB.out | apply below_alloc | apply pw_below_drewN | apply below_drew1 | refine below_set ?_ GE294.out) | exact HB.out)) hb); clear BK294; clear HB; have BK294 := n0_; have HB := n1_; clear n0_ n1_; (try clear hb); (try clear hb2); (try clear hk); (try clear hi)))
  go_ret3
  exact ⟨_, by first | rfl | (simp [errW_none, errW_some] <;> rfl) | (simp [*, errW_none, errW_some] <;> rfl), by first | exact Kd.S_nil _ _ _ _ _ | exact Kd.N_nil _ _ _ _ _ | exact Kd.V_nil _ _ _ _ _ | exact Kd.Q_nil _ _ _ _ _ | exact Kd.R_nil _ _ _ _ _, by repeat (first | (with_reducible first | exact HB.out | apply below_alloc | apply pw_below_drewN | apply below_drew1 | refine below_set ?_ GE294.out) | exact HB.out)⟩
end Go.Proofs.Yteeihjpnhjnknaa.GAll
namespace Go.Proofs.Yteeihjpnhjnknaa.Rot
open Go.RowKit Go.Proofs.YteeihjpnhjnknaaW.PrintWords Go.Proofs.YteeihjpnhjnknaaW.PrintLast Go.Proofs.YteeihjpnhjnknaaW.PrintMore Go.Proofs.Yteeihjpnhjnknaa.GAll Go.Proofs.Yteeihjpnhjnknaa.Mem Go.Proofs.Yteeihjpnhjnknaa.Seen
set_option linter.unusedVariables false
set_option linter.unusedSimpArgs false
theorem from_f {n : Int} {l : List Ed} {h : Nat} (hl : l.length ≤ 4194304) (hh : h < 2 * l.length) : tangramref11_From.f n l (h : Int) = some (gi (frs l) h) := by
 have hi : h / 2 < l.length := by omega
 have e1 : Int.tmod (h : Int) 2 = ((h % 2 : Nat) : Int) := rfl
 have e2 : wrap64 (Int.tdiv (h : Int) 2) = ((h / 2 : Nat) : Int) := by
  have : Int.tdiv (h : Int) 2 = ((h / 2 : Nat) : Int) := rfl
  rw [this, IntWalk.wrap64_in _ (by omega)]
 unfold tangramref11_From.f
 rw [e1, e2]
 have c1 : (0 : Int) ≤ ((h / 2 : Nat) : Int) := by omega
 have c2 : ((h / 2 : Nat) : Int) < (l.length : Int) := by omega
 rcases Nat.mod_two_eq_zero_or_one h with e | e
 ·have e3 : h = 2 * (h / 2) := by omega
  have q := frs_even hi
  rw [← e3] at q
  rw [if_pos (by omega), if_pos c1, if_pos c2, q]
 ·have e3 : h = 2 * (h / 2) + 1 := by omega
  have q := frs_odd hi
  rw [← e3] at q
  rw [if_neg (by omega), if_pos c1, if_pos c2, q]
theorem stands_ev {row : List Int} (hb : row.length ≤ 9000000000000000000) (x : Int) {j : Nat} (hj : j ≤ row.length) : Ev (fun k => tangramref11_stands.f k row (j : Int) x) (decide (x ∈ row.take j)) := by
 have loop : ∀ (d i : Nat), i + d = j → x ∉ row.take i → Ev (fun k => tangramref11_stands.l0 k row (j : Int) x (i : Int)) (decide (x ∈ row.take j)) := by
  intro d
  induction d with
  | zero =>
   intro i hi hx
   obtain rfl : i = j := by omega
   rw [decide_eq_false hx]
   refine Ev.step (f := fun _ => some false) (fun k => ?_) (Ev.now _)
   simp only [tangramref11_stands.l0]
   rw [if_neg (by omega)]
  | succ d ih =>
   intro i hi hx
   have hil : i < row.length := by omega
   by_cases c : gi row i = x
   ·rw [decide_eq_true (by
     rw [← c, gi_get hil, List.mem_iff_getElem]
     exact ⟨i, by rw [List.length_take]; omega, by simp⟩)]
    refine Ev.step (f := fun _ => some true) (fun k => ?_) (Ev.now _)
    simp only [tangramref11_stands.l0]
    rw [if_pos (by omega), if_pos (by omega), if_pos (by omega), gi_rd, if_pos c]
   ·refine Ev.step (fun k => ?_) (ih (i + 1) (by omega) (by
     rw [List.take_succ_eq_append_getElem hil, List.mem_append, List.mem_singleton, ← gi_get hil]
     rintro (h | h)
     ·exact hx h
     ·exact c h.symm))
    simp only [tangramref11_stands.l0]
    rw [if_pos (by omega), if_pos (by omega), if_pos (by omega), gi_rd, if_neg c, w1 (by omega)]
 exact loop j 0 (by omega) (by simp)
theorem degree_ev {n : Int} {l : List Ed} (hl : l.length ≤ 4194304) (v : Int) : Ev (fun k => tangramref11_degree.f k n l v) ((cnt (frs l) (2 * l.length) v : Nat) : Int) := by
 have loop : ∀ (d i : Nat), i + d = 2 * l.length → Ev (fun k => tangramref11_degree.l0 k v ((cnt (frs l) i v : Nat) : Int) (i : Int) n l) ((cnt (frs l) (2 * l.length) v : Nat) : Int) := by
  intro d
  induction d with
  | zero =>
   intro i hi
   obtain rfl : i = 2 * l.length := by omega
   refine Ev.step (f := fun _ => some _) (fun k => ?_) (Ev.now _)
   simp only [tangramref11_degree.l0]
   rw [IntWalk.wrap64_in _ (by omega), if_neg (by omega)]
  | succ d ih =>
   intro i hi
   have hc := cnt_le (frs l) i v
   refine Ev.step (fun k => ?_) (ih (i + 1) (by omega))
   simp only [tangramref11_degree.l0]
   rw [IntWalk.wrap64_in (2 * (l.length : Int)) (by omega), if_pos (by omega), from_f hl (by omega), Option.bind_some, cnt_succ, w1 (by omega), w1 (by omega)]
   by_cases c : gi (frs l) i = v
   ·rw [if_pos c, if_pos c]
   ·rw [if_neg c, if_neg c]; rfl
 exact loop (2 * l.length) 0 (by omega)
theorem to_f {n : Nat} {l : List Ed} (hg : PureV.Good (n : Int) l) {h : Nat} (hh : h < 2 * l.length) : tangramref11_To.f (n : Int) l (h : Int) = some (gi (toOf l) h) := by
 have hll := hg.2.2.1
 unfold tangramref11_To.f
 show (tangramref11_From.f (n : Int) l (tw (h : Int))).bind _ = _
 have e := (from_to hg hh).2
 obtain ⟨q, hq, hq2⟩ : ∃ q : Nat, tw (h : Int) = (q : Int) ∧ q < 2 * l.length := by
  rw [tw_nat (by omega)]
  by_cases c : h % 2 = 0
  ·exact ⟨h + 1, by rw [if_pos c], by omega⟩
  ·exact ⟨h - 1, by rw [if_neg c], by omega⟩
 rw [hq] at e ⊢
 rw [from_f hll hq2, Option.bind_some, e, Int.toNat_natCast]
theorem half_at {n : Nat} {l : List Ed} (hg : PureV.Good (n : Int) l) {h : Nat} (hh : h < 2 * l.length) : Ev (fun k => tangramref11_Half.f k (n : Int) l (gi (frs l) h) (gi (toOf l) h)) (h : Int) := by
 have hll := hg.2.2.1
 have loop : ∀ (d i : Nat), i + d = h → Ev (fun k => tangramref11_Half.l0 k (gi (frs l) h) (gi (toOf l) h) (i : Int) (n : Int) l) (h : Int) := by
  intro d
  induction d with
  | zero =>
   intro i hi
   obtain rfl : i = h := by omega
   refine Ev.step (f := fun _ => some (i : Int)) (fun k => ?_) (Ev.now _)
   simp only [tangramref11_Half.l0]
   rw [IntWalk.wrap64_in (2 * (l.length : Int)) (by omega), if_pos (by omega), from_f hll hh, Option.bind_some, if_pos rfl, to_f hg hh, Option.bind_some, if_pos rfl]
  | succ d ih =>
   intro i hi
   have hi2 : i < 2 * l.length := by omega
   refine Ev.step (fun k => ?_) (ih (i + 1) (by omega))
   simp only [tangramref11_Half.l0]
   rw [IntWalk.wrap64_in (2 * (l.length : Int)) (by omega), if_pos (by omega), from_f hll hi2, Option.bind_some, to_f hg hi2, Option.bind_some, w1 (by omega)]
   by_cases c1 : gi (frs l) i = gi (frs l) h
   ·rw [if_pos c1]
    by_cases c2 : gi (toOf l) i = gi (toOf l) h
    ·exact absurd (half_one hg hi2 hh (by rw [frm_frs hg hi2, frm_frs hg hh, c1]) (by unfold too; rw [Int.toNat_natCast, Int.toNat_natCast, c2])) (by omega)
    ·rw [if_neg c2]
   ·rw [if_neg c1]
 exact loop h 0 (by omega)
def arO (l : List Ed) (r : List (List Int)) : List (List Int) := r.map fun row => row.map fun h => gi (toOf l) h.toNat
theorem gl_arO {l : List Ed} {r : List (List Int)} {v : Nat} (hv : v < r.length) : gl (arO l r) v = (gl r v).map fun h => gi (toOf l) h.toNat := by
 unfold arO gl
 simp [List.getD_eq_getElem?_getD, hv]
theorem gi_map {f : Int → Int} {row : List Int} {j : Nat} (h : j < row.length) : gi (row.map f) j = f (gi row j) := by
 unfold gi
 simp [List.getD_eq_getElem?_getD, h]
theorem of_around {n : Nat} {l : List Ed} {r : List (List Int)} (hm : IsMap n l r) : Ev (fun k => tangramref11_Of.f k (n : Int) l (arO l r)) (r, 0, 0) := by
 have hg := hm.good
 have hll := hg.2.2.1
 have hnn := hg.2.1
 have hrl := hm.rot.len
 have hal : (arO l r).length = n := by unfold arO; rw [List.length_map, hrl]
 have hin : ∀ v, v < n → ∀ j, j < (gl r v).length → ∃ h : Nat, gi (gl r v) j = (h : Int) ∧ h < 2 * l.length ∧ gi (frs l) h = (v : Int) := fun v hv j hj => by
  have hmem : gi (gl r v) j ∈ gl r v := by rw [gi_get hj]; exact List.getElem_mem hj
  have h1 := (hm.rot.mem v hv _).1 hmem
  unfold leaves at h1
  rw [Bool.and_eq_true, Bool.and_eq_true, decide_eq_true_eq, decide_eq_true_eq, beq_iff_eq, frs_length] at h1
  exact ⟨(gi (gl r v) j).toNat, by omega, by omega, h1.2.2⟩
 have hrow : ∀ v, v < n → (gl r v).length = cnt (frs l) (2 * l.length) v ∧ (gl r v).length ≤ 8388608 := fun v hv => by
  have h1 := leaving_cnt (frs l) v
  rw [frs_length] at h1
  have hsub : ∀ x, x ∈ gl r v ↔ x ∈ leaving (frs l) v := fun x => by rw [hm.rot.mem v hv, mem_leaving]
  have p1 := nodup_subset (gl r v) (leaving (frs l) v) (hm.rot.nodup v hv) (fun x hx => (hsub x).1 hx)
  have p2 := nodup_subset (leaving (frs l) v) (gl r v) (leaving_nodup (frs l) v) (fun x hx => (hsub x).2 hx)
  have h2 := cnt_le (frs l) (2 * l.length) v
  omega
 unfold tangramref11_Of.f
 obtain ⟨b, _, hb2, hgd⟩ := PureV.valid (n : Int) l
 rw [hgd.2 hg] at hb2
 refine Ev.bind hb2 (Ev.congr (fun k => by rw [if_pos rfl, if_pos (by rw [hal])]) ?_)
 have outer : ∀ (d v : Nat), v + d = n → Ev (fun k => tangramref11_Of.l0 k (arO l r) (r.take v) (v : Int) (n : Int) l) (r, 0, 0) := by
  intro d
  induction d with
  | zero =>
   intro v hv
   refine Ev.step (f := fun _ => some (r.take v, 0, 0)) (fun k => ?_) (by rw [List.take_of_length_le (by omega)]; exact Ev.now _)
   simp only [tangramref11_Of.l0]
   rw [if_neg (by omega)]
  | succ d ih =>
   intro v hv
   have hvn : v < n := by omega
   have hga := gl_arO (l := l) (r := r) (v := v) (by omega)
   obtain ⟨row, hrw⟩ : ∃ row, row = gl r v := ⟨_, rfl⟩
   rw [← hrw] at hga
   have hrl2 := (hrow v hvn).2
   have hcnt := (hrow v hvn).1
   rw [← hrw] at hrl2 hcnt
   have hRL : rd_L5 (arO l r) (v : Int) = row.map fun h => gi (toOf l) h.toNat := by
    rw [← hga]
    unfold gl
    show (arO l r).getD (v : Int).toNat [] = _
    rw [Int.toNat_natCast]
   have inner : ∀ (e j : Nat), j + e = row.length → Ev (fun k => tangramref11_Of.l1 k (arO l r) (r.take v) (v : Int) (row.take j) (j : Int) (n : Int) l) (r, 0, 0) := by
    intro e
    induction e with
    | zero =>
     intro j hj
     have hdeg := degree_ev (n := (n : Int)) hll (v : Int)
     refine Ev.step (f := fun k => (tangramref11_degree.f k (n : Int) l (v : Int)).bind fun t => if ((row.take j).length : Int) < t then some (([] : List (List Int)), (v : Int), 113) else (if (r.take v).length < 5864062014805 then tangramref11_Of.l0 k (arO l r) (r.take v ++ [row.take j]) ((v + 1 : Nat) : Int) (n : Int) l else none)) (fun k => ?_) (Ev.bind hdeg ?_)
     ·simp only [tangramref11_Of.l1]
      rw [if_pos (by omega), if_pos (by rw [hal]; omega), hRL, if_neg (by rw [List.length_map]; omega), w1 (by omega)]
     ·rw [List.take_of_length_le (by omega)]
      refine Ev.congr (fun k => if_neg (by rw [hcnt]; omega)) (Ev.congr (fun k => if_pos (by rw [List.length_take]; omega)) ?_)
      have e1 : r.take v ++ [row] = r.take (v + 1) := by
       rw [List.take_add_one, hrw, gl_of (by omega)]
       rfl
      rw [e1]
      exact ih (v + 1) (by omega)
    | succ e ih2 =>
     intro j hj
     have hjl : j < row.length := by omega
     obtain ⟨h, e1, hh, hf⟩ := hin v hvn j (by rw [← hrw]; exact hjl)
     rw [← hrw] at e1
     have hx : rd (row.map fun h => gi (toOf l) h.toNat) (j : Int) = gi (toOf l) h := by
      rw [gi_rd, gi_map hjl, e1, Int.toNat_natCast]
     have hhalf := half_at hg hh
     rw [hf] at hhalf
     have hst := stands_ev (row := row.map fun h => gi (toOf l) h.toNat) (by rw [List.length_map]; omega) (gi (toOf l) h) (j := j) (by rw [List.length_map]; omega)
     have hno : ¬ gi (toOf l) h ∈ (row.map fun h => gi (toOf l) h.toNat).take j := by
      rw [← List.map_take, List.mem_map]
      rintro ⟨y, hy, e2⟩
      obtain ⟨i, hi, e3⟩ := List.mem_iff_getElem.1 hy
      rw [List.length_take] at hi
      rw [List.getElem_take] at e3
      obtain ⟨g, e4, hg2, hf2⟩ := hin v hvn i (by rw [← hrw]; omega)
      rw [← hrw, gi_get (by omega), e3] at e4
      rw [e4, Int.toNat_natCast] at e2
      have hgh := half_one hg hg2 hh (by rw [frm_frs hg hg2, frm_frs hg hh, hf, hf2]) (by unfold too; rw [Int.toNat_natCast, Int.toNat_natCast, e2])
      have hnd := hm.rot.nodup v hvn
      rw [← hrw, List.nodup_iff_pairwise_ne, List.pairwise_iff_getElem] at hnd
      have := hnd i j (by omega) hjl (by omega)
      rw [gi_get hjl] at e1
      rw [e3, e4, e1, hgh] at this
      exact this rfl
     refine Ev.step (f := fun k => (tangramref11_Half.f k (n : Int) l (v : Int) (gi (toOf l) h)).bind fun t => if t < 0 then some (([] : List (List Int)), (v : Int), 111) else ((tangramref11_stands.f k (row.map fun h => gi (toOf l) h.toNat) (j : Int) (gi (toOf l) h)).bind fun t2 => if t2 = true then some (([] : List (List Int)), (v : Int), 112) else (if (row.take j).length < 17592186044416 then tangramref11_Of.l1 k (arO l r) (r.take v) (v : Int) (row.take j ++ [t]) ((j + 1 : Nat) : Int) (n : Int) l else none))) (fun k => ?_) (Ev.bind hhalf ?_)
     ·simp only [tangramref11_Of.l1]
      rw [if_pos (by omega), if_pos (by rw [hal]; omega), hRL, if_pos (by rw [List.length_map]; omega), if_pos (by omega), hx, w1 (by omega)]
     ·refine Ev.congr (fun k => if_neg (show ¬ (h : Int) < 0 by omega)) (Ev.bind hst ?_)
      rw [decide_eq_false hno]
      refine Ev.congr (fun k => if_neg (by decide)) (Ev.congr (fun k => if_pos (by rw [List.length_take]; omega)) ?_)
      have e5 : row.take j ++ [(h : Int)] = row.take (j + 1) := by
       rw [List.take_add_one, gi_of hjl, e1]
       rfl
      rw [e5]
      exact ih2 (j + 1) (by omega)
   have key := inner row.length 0 (by omega)
   rw [List.take_zero] at key
   refine Ev.step (fun k => ?_) key
   simp only [tangramref11_Of.l0]
   rw [if_pos (by omega)]
   rfl
 have key := outer n 0 (by omega)
 rw [List.take_zero] at key
 exact key
end Go.Proofs.Yteeihjpnhjnknaa.Rot
namespace Go.Proofs.Yteeihjpnhjnknaa.Rot
open Go.RowKit Go.Proofs.YteeihjpnhjnknaaW.PrintWords Go.Proofs.YteeihjpnhjnknaaW.PrintLast Go.Proofs.YteeihjpnhjnknaaW.PrintMore Go.Proofs.Yteeihjpnhjnknaa.GAll Go.Proofs.Yteeihjpnhjnknaa.Mem Go.Proofs.Yteeihjpnhjnknaa.Seen Go.Proofs.Yteeihjpnhjnknaa.Mk
set_option linter.unusedVariables false
set_option linter.unusedSimpArgs false
structure Ren (n : Nat) (nx tos : List Int) (φ : Int → Int) (E : Nat → Int) : Prop where
 rng : ∀ v, 0 ≤ v → v < (n : Int) → 0 ≤ φ v ∧ φ v < (n : Int)
 inj : ∀ u v, 0 ≤ u → u < (n : Int) → 0 ≤ v → v < (n : Int) → φ u = φ v → u = v
 ent : ∀ v, v < n → In nx (E v) ∧ φ (frm tos (E v)) = (v : Int)
def Prs (nx tos : List Int) (φ : Int → Int) (ps : List (Int × Int)) : Prop := ∀ p, p ∈ ps ↔ ∃ x, In nx x ∧ p = (φ (frm tos x), φ (too tos x))
def renN (n : Nat) (nx tos : List Int) (φ : Int → Int) (E : Nat → Int) : List (List Int) := (List.range n).map fun v => (List.range (per nx (E v))).map fun j => φ (too tos (it nx (E v) j))
open Classical in
noncomputable def ren (l' : List Ed) (tos : List Int) (φ : Int → Int) (x : Int) : Int :=
 if h : ∃ y : Nat, y < 2 * l'.length ∧ frm (toOf l') (y : Int) = φ (frm tos x) ∧ too (toOf l') (y : Int) = φ (too tos x) then (Classical.choose h : Nat) else 0
noncomputable def renR (n : Nat) (l' : List Ed) (nx tos : List Int) (φ : Int → Int) (E : Nat → Int) : List (List Int) := (List.range n).map fun v => (List.range (per nx (E v))).map fun j => ren l' tos φ (it nx (E v) j)
theorem gl_range {n : Nat} (F : Nat → List Int) {v : Nat} (hv : v < n) : gl ((List.range n).map F) v = F v := by
 unfold gl
 simp [List.getD_eq_getElem?_getD, hv]
theorem gi_range {n : Nat} (F : Nat → Int) {v : Nat} (hv : v < n) : gi ((List.range n).map F) v = F v := by
 unfold gi
 simp [List.getD_eq_getElem?_getD, hv]
section
variable {n : Nat} {l : List Ed} {r : List (List Int)} {φ : Int → Int} {E : Nat → Int} {ps : List (Int × Int)}
theorem make_mem (hm : IsMap n l r) (hp : parts n l = 1) (hR : Ren n (nxOf l r) (toOf l) φ E) (hps : Prs (nxOf l r) (toOf l) φ ps) (y : Int × Int) : y ∈ makeL ps ↔ ∃ x, In (nxOf l r) x ∧ norm (φ (frm (toOf l) x), φ (too (toOf l) x)) = y := by
 have hw := web hm hp
 rw [(makeL_up ps).2]
 constructor
 ·rintro ⟨p, hp, hne, e⟩
  obtain ⟨x, hx, rfl⟩ := (hps p).1 hp
  exact ⟨x, hx, e⟩
 ·rintro ⟨x, hx, e⟩
  refine ⟨_, (hps _).2 ⟨x, hx, rfl⟩, fun q => ?_, e⟩
  obtain ⟨k, rfl, hk⟩ := hx.nat
  have a := hw.fr hx
  have b := hw.to hx
  exact frm_ne hm.good (by rw [hm.len] at hk; exact hk) (hR.inj _ _ a.1 a.2 b.1 b.2 q)
theorem make_len (hm : IsMap n l r) (hp : parts n l = 1) (hR : Ren n (nxOf l r) (toOf l) φ E) (hps : Prs (nxOf l r) (toOf l) φ ps) : (makeL ps).length = l.length := by
 have hw := web hm hp
 have hlen := hm.len
 have hmem := make_mem hm hp hR hps
 obtain ⟨key, hkey⟩ : ∃ key : Nat → Int × Int, key = fun i => norm (φ (frm (toOf l) ((2 * i : Nat) : Int)), φ (too (toOf l) ((2 * i : Nat) : Int))) := ⟨_, rfl⟩
 have hin : ∀ i, i < l.length → In (nxOf l r) ((2 * i : Nat) : Int) := fun i hi => ⟨by omega, by rw [hlen]; omega⟩
 have hsub : ∀ y, y ∈ makeL ps ↔ y ∈ (List.range l.length).map key := fun y => by
  rw [hmem y, List.mem_map]
  constructor
  ·rintro ⟨x, hx, e⟩
   obtain ⟨k, rfl, hk⟩ := hx.nat
   rw [hlen] at hk
   refine ⟨k / 2, List.mem_range.2 (by omega), ?_⟩
   rw [hkey]
   simp only
   obtain ⟨⟨a1, a2⟩, a3, a4⟩ := two_ends hm.good (show k / 2 < l.length by omega)
   rw [← e]
   rcases half_of hm.good hk with ⟨_, c, d⟩ | ⟨_, c, d⟩
   ·rw [a1, a2, c, d]
   ·rw [a1, a2, c, d, norm_swap]
  ·rintro ⟨i, hi, e⟩
   rw [List.mem_range] at hi
   exact ⟨_, hin i hi, by rw [← e, hkey]⟩
 have hnd : ((List.range l.length).map key).Nodup := by
  rw [List.nodup_iff_pairwise_ne, List.pairwise_map]
  have hr : (List.range l.length).Pairwise (· < ·) := List.pairwise_lt_range
  refine List.Pairwise.imp_of_mem ?_ hr
  intro i j hi hj hij e
  rw [List.mem_range] at hi hj
  rw [hkey] at e
  simp only at e
  have a := hw.fr (hin i hi)
  have b := hw.to (hin i hi)
  have c := hw.fr (hin j hj)
  have d := hw.to (hin j hj)
  rcases norm_eq e with ⟨e1, e2⟩ | ⟨e1, e2⟩
  ·have q := half_one hm.good (x := 2 * i) (y := 2 * j) (by omega) (by omega) (hR.inj _ _ a.1 a.2 c.1 c.2 e1) (hR.inj _ _ b.1 b.2 d.1 d.2 e2)
   omega
  ·have t := two_ends hm.good hj
   have q := half_one hm.good (x := 2 * i) (y := 2 * j + 1) (by omega) (by omega) (by rw [t.2.1, ← t.1.2]; exact hR.inj _ _ a.1 a.2 d.1 d.2 e1) (by rw [t.2.2, ← t.1.1]; exact hR.inj _ _ b.1 b.2 c.1 c.2 e2)
   omega
 have h1 := sub_le (makeL ps) _ (makeL_up ps).1.nodup (fun y hy => (hsub y).1 hy)
 have h2 := sub_le _ (makeL ps) hnd (fun y hy => (hsub y).2 hy)
 rw [List.length_map, List.length_range] at h1 h2
 omega
theorem make_good (hm : IsMap n l r) (hp : parts n l = 1) (hR : Ren n (nxOf l r) (toOf l) φ E) (hps : Prs (nxOf l r) (toOf l) φ ps) : PureV.Good (n : Int) (eds (makeL ps)) := by
 have hw := web hm hp
 refine eds_good (by have := hm.good.2.1; omega) (fun p hp => ?_) (by rw [make_len hm hp hR hps]; exact hm.good.2.2.1)
 obtain ⟨x, hx, rfl⟩ := (hps p).1 hp
 have a := hw.fr hx
 have b := hw.to hx
 exact ⟨hR.rng _ a.1 a.2, hR.rng _ b.1 b.2⟩
theorem ren_at (hm : IsMap n l r) (hp : parts n l = 1) (hR : Ren n (nxOf l r) (toOf l) φ E) (hps : Prs (nxOf l r) (toOf l) φ ps) {x : Int} (hx : In (nxOf l r) x) : ∃ y : Nat, ren (eds (makeL ps)) (toOf l) φ x = (y : Int) ∧ y < 2 * l.length ∧ frm (toOf (eds (makeL ps))) (y : Int) = φ (frm (toOf l) x) ∧ too (toOf (eds (makeL ps))) (y : Int) = φ (too (toOf l) x) := by
 have hg := make_good hm hp hR hps
 have hl : (eds (makeL ps)).length = l.length := by rw [eds_length]; exact make_len hm hp hR hps
 have h := half_ex hg (a := φ (frm (toOf l) x)) (b := φ (too (toOf l) x)) (by rw [ends_eds]; exact (make_mem hm hp hR hps _).2 ⟨x, hx, rfl⟩)
 have h2 := Classical.choose_spec h
 refine ⟨Classical.choose h, ?_, by rw [← hl]; exact h2.1, h2.2⟩
 unfold ren
 rw [dif_pos h]
theorem ren_onto (hm : IsMap n l r) (hp : parts n l = 1) (hR : Ren n (nxOf l r) (toOf l) φ E) (hps : Prs (nxOf l r) (toOf l) φ ps) {y : Nat} (hy : y < 2 * l.length) : ∃ x, In (nxOf l r) x ∧ ren (eds (makeL ps)) (toOf l) φ x = (y : Int) := by
 have hw := web hm hp
 have hg := make_good hm hp hR hps
 have hl : (eds (makeL ps)).length = l.length := by rw [eds_length]; exact make_len hm hp hR hps
 have hy2 : y < 2 * (eds (makeL ps)).length := by rw [hl]; exact hy
 have h1 := half_norm hg hy2
 rw [ends_eds] at h1
 obtain ⟨x, hx, e⟩ := (make_mem hm hp hR hps (pe (makeL ps) (y / 2))).1 (by rw [← pe_get (by have := make_len hm hp hR hps; omega)]; exact List.getElem_mem _)
 rw [← e] at h1
 rcases norm_eq h1 with ⟨a, b⟩ | ⟨a, b⟩
 ·obtain ⟨z, z1, z2, z3, z4⟩ := ren_at hm hp hR hps hx
  refine ⟨x, hx, ?_⟩
  rw [z1, half_one hg (by rw [hl]; exact z2) hy2 (z3.trans a.symm) (z4.trans b.symm)]
 ·have hx2 := hx.twin hw
  obtain ⟨z, z1, z2, z3, z4⟩ := ren_at hm hp hR hps hx2
  rw [hw.ft hx] at z3
  have e2 : too (toOf l) (tw x) = frm (toOf l) x := by rw [← hw.ft hx2, hw.tt hx]
  rw [e2] at z4
  refine ⟨_, hx2, ?_⟩
  rw [z1, half_one hg (by rw [hl]; exact z2) hy2 (z3.trans a.symm) (z4.trans b.symm)]
theorem ren_inj (hm : IsMap n l r) (hp : parts n l = 1) (hR : Ren n (nxOf l r) (toOf l) φ E) (hps : Prs (nxOf l r) (toOf l) φ ps) {x y : Int} (hx : In (nxOf l r) x) (hy : In (nxOf l r) y) (e : ren (eds (makeL ps)) (toOf l) φ x = ren (eds (makeL ps)) (toOf l) φ y) : x = y := by
 have hw := web hm hp
 have hlen := hm.len
 obtain ⟨a, a1, a2, a3, a4⟩ := ren_at hm hp hR hps hx
 obtain ⟨b, b1, b2, b3, b4⟩ := ren_at hm hp hR hps hy
 rw [a1, b1] at e
 rw [e] at a3 a4
 have x1 := hw.fr hx
 have x2 := hw.to hx
 have y1 := hw.fr hy
 have y2 := hw.to hy
 have e1 := hR.inj _ _ x1.1 x1.2 y1.1 y1.2 (a3.symm.trans b3)
 have e2 := hR.inj _ _ x2.1 x2.2 y2.1 y2.2 (a4.symm.trans b4)
 obtain ⟨p, rfl, hp1⟩ := hx.nat
 obtain ⟨q, rfl, hq1⟩ := hy.nat
 rw [half_one hm.good (by omega) (by omega) e1 e2]
theorem ren_twin (hm : IsMap n l r) (hp : parts n l = 1) (hR : Ren n (nxOf l r) (toOf l) φ E) (hps : Prs (nxOf l r) (toOf l) φ ps) {x : Int} (hx : In (nxOf l r) x) : ren (eds (makeL ps)) (toOf l) φ (tw x) = tw (ren (eds (makeL ps)) (toOf l) φ x) := by
 have hw := web hm hp
 have hll := hm.good.2.2.1
 have hg := make_good hm hp hR hps
 have hl : (eds (makeL ps)).length = l.length := by rw [eds_length]; exact make_len hm hp hR hps
 have hx2 := hx.twin hw
 obtain ⟨a, a1, a2, a3, a4⟩ := ren_at hm hp hR hps hx
 obtain ⟨b, b1, b2, b3, b4⟩ := ren_at hm hp hR hps hx2
 rw [hw.ft hx] at b3
 have e2 : too (toOf l) (tw x) = frm (toOf l) x := by rw [← hw.ft hx2, hw.tt hx]
 rw [e2] at b4
 rw [a1, b1]
 obtain ⟨c, c1, c2⟩ : ∃ c : Nat, tw (a : Int) = (c : Int) ∧ c < 2 * l.length := by
  rw [tw_nat (by omega)]
  exact ⟨_, rfl, by split <;> omega⟩
 rw [c1]
 have t1 : frm (toOf (eds (makeL ps))) (c : Int) = too (toOf (eds (makeL ps))) (a : Int) := by
  unfold frm too
  rw [← c1, tw_tw (by omega)]
 have t2 : too (toOf (eds (makeL ps))) (c : Int) = frm (toOf (eds (makeL ps))) (a : Int) := by
  unfold frm too
  rw [← c1]
 exact congrArg Int.ofNat (half_one hg (x := b) (y := c) (by rw [hl]; exact b2) (by rw [hl]; exact c2) (by rw [b3, t1, a4]) (by rw [b4, t2, a3]))
theorem renR_gl {l' : List Ed} {nx tos : List Int} {v : Nat} (hv : v < n) : gl (renR n l' nx tos φ E) v = (List.range (per nx (E v))).map fun j => ren l' tos φ (it nx (E v) j) := by
 unfold renR
 rw [gl_range _ hv]
theorem ren_rot (hm : IsMap n l r) (hp : parts n l = 1) (hR : Ren n (nxOf l r) (toOf l) φ E) (hps : Prs (nxOf l r) (toOf l) φ ps) : IsMap n (eds (makeL ps)) (renR n (eds (makeL ps)) (nxOf l r) (toOf l) φ E) := by
 have hw := web hm hp
 have hg := make_good hm hp hR hps
 have hl : (eds (makeL ps)).length = l.length := by rw [eds_length]; exact make_len hm hp hR hps
 refine ⟨hg, ⟨by unfold renR; simp, fun v hv => ?_, fun v hv x => ?_⟩⟩
 ·rw [renR_gl hv]
  obtain ⟨hE, _⟩ := hR.ent v hv
  rw [List.nodup_iff_pairwise_ne, List.pairwise_map]
  have hr : (List.range (per (nxOf l r) (E v))).Pairwise (· < ·) := List.pairwise_lt_range
  refine List.Pairwise.imp_of_mem ?_ hr
  intro i j hi hj hij e
  rw [List.mem_range] at hi hj
  have := it_inj (by omega) hi hj (ren_inj hm hp hR hps (hE.it hw i) (hE.it hw j) e)
  omega
 ·rw [renR_gl hv, List.mem_map]
  obtain ⟨hE, hE2⟩ := hR.ent v hv
  unfold leaves
  rw [Bool.and_eq_true, Bool.and_eq_true, decide_eq_true_eq, decide_eq_true_eq, beq_iff_eq, frs_length, hl]
  constructor
  ·rintro ⟨j, hj, rfl⟩
   obtain ⟨y, y1, y2, y3, y4⟩ := ren_at hm hp hR hps (hE.it hw j)
   rw [y1, Int.toNat_natCast]
   refine ⟨by omega, by omega, ?_⟩
   rw [← frm_frs hg (by rw [hl]; exact y2), y3, hw.fit' hE, hE2]
  ·rintro ⟨h1, h2, h3⟩
   obtain ⟨y, rfl⟩ := Int.eq_ofNat_of_zero_le h1
   rw [Int.toNat_natCast, ← frm_frs hg (by rw [hl]; omega)] at h3
   obtain ⟨x, hx, e⟩ := ren_onto hm hp hR hps (y := y) (by omega)
   obtain ⟨z, z1, z2, z3, z4⟩ := ren_at hm hp hR hps hx
   rw [e] at z1
   obtain rfl : y = z := by omega
   have a := hw.fr hx
   have b := hw.fr hE
   have q := hR.inj _ _ a.1 a.2 b.1 b.2 (by rw [← z3, h3, hE2])
   obtain ⟨j, hj, ej⟩ := hw.arnd hE hx q.symm
   exact ⟨j, List.mem_range.2 hj, by rw [ej, e]⟩
theorem ren_arO (hm : IsMap n l r) (hp : parts n l = 1) (hR : Ren n (nxOf l r) (toOf l) φ E) (hps : Prs (nxOf l r) (toOf l) φ ps) : arO (eds (makeL ps)) (renR n (eds (makeL ps)) (nxOf l r) (toOf l) φ E) = renN n (nxOf l r) (toOf l) φ E := by
 have hw := web hm hp
 unfold arO renR renN
 rw [List.map_map]
 refine List.map_congr_left fun v hv => ?_
 rw [List.mem_range] at hv
 obtain ⟨hE, _⟩ := hR.ent v hv
 show ((List.range _).map _).map _ = _
 rw [List.map_map]
 refine List.map_congr_left fun j hj => ?_
 obtain ⟨y, y1, y2, y3, y4⟩ := ren_at hm hp hR hps (hE.it hw j)
 show gi _ (ren _ _ _ _).toNat = _
 rw [y1]
 exact y4
theorem ren_ism (hm : IsMap n l r) (hp : parts n l = 1) (hR : Ren n (nxOf l r) (toOf l) φ E) (hps : Prs (nxOf l r) (toOf l) φ ps) : Ism (nxOf l r) (toOf l) (nxOf (eds (makeL ps)) (renR n (eds (makeL ps)) (nxOf l r) (toOf l) φ E)) (toOf (eds (makeL ps))) (ren (eds (makeL ps)) (toOf l) φ) := by
 have hw := web hm hp
 have hm' := ren_rot hm hp hR hps
 have hl : (eds (makeL ps)).length = l.length := by rw [eds_length]; exact make_len hm hp hR hps
 have hlen' := hm'.len
 rw [hl] at hlen'
 refine ⟨fun x hx => ?_, fun x hx => ?_, fun x hx => ren_twin hm hp hR hps hx, fun x y hx hy e => ren_inj hm hp hR hps hx hy e⟩
 ·obtain ⟨y, y1, y2, y3, y4⟩ := ren_at hm hp hR hps hx
  rw [y1]
  exact ⟨by omega, by rw [hlen']; omega⟩
 ·have a := hw.fr hx
  have b := hR.rng _ a.1 a.2
  obtain ⟨v, hv⟩ := Int.eq_ofNat_of_zero_le b.1
  have hvn : v < n := by omega
  obtain ⟨hE, hE2⟩ := hR.ent v hvn
  have c := hw.fr hE
  obtain ⟨j, hj, ej⟩ := hw.arnd hE hx (hR.inj _ _ c.1 c.2 a.1 a.2 (by rw [hE2, hv]))
  have hgl := renR_gl (φ := φ) (E := E) (l' := eds (makeL ps)) (nx := nxOf l r) (tos := toOf l) hvn
  have hgn : (gl (renR n (eds (makeL ps)) (nxOf l r) (toOf l) φ E) v).length = per (nxOf l r) (E v) := by rw [hgl]; simp
  have hat : ∀ i, i < per (nxOf l r) (E v) → gi (gl (renR n (eds (makeL ps)) (nxOf l r) (toOf l) φ E) v) i = ren (eds (makeL ps)) (toOf l) φ (it (nxOf l r) (E v) i) := fun i hi => by rw [hgl, gi_range _ hi]
  have key := it_at hm'.rot (nxOf_next hm'.rot) hvn (j := j) (by rw [hgn]; exact hj) 1
  rw [hat j hj, ej, hgn] at key
  have key2 : gi (nxOf (eds (makeL ps)) (renR n (eds (makeL ps)) (nxOf l r) (toOf l) φ E)) (ren (eds (makeL ps)) (toOf l) φ x).toNat = _ := key
  rw [key2]
  have e1 : gi (nxOf l r) x.toNat = it (nxOf l r) (E v) (j + 1) := by rw [← ej]; rfl
  rw [e1]
  rcases Nat.lt_or_eq_of_le (Nat.succ_le_of_lt hj) with q | q
  ·rw [Nat.mod_eq_of_lt q, hat _ q]
  ·have q2 : j + 1 = per (nxOf l r) (E v) := q
   have hper := (per_spec (nx := nxOf l r) (h := E v) (by omega)).1
   rw [q2, Nat.mod_self, hat 0 (by omega), hper]
   rfl
end
end Go.Proofs.Yteeihjpnhjnknaa.Rot
namespace Go.Proofs.Yteeihjpnhjnknaa.Rot
open Go.RowKit Go.Proofs.YteeihjpnhjnknaaW.PrintWords Go.Proofs.YteeihjpnhjnknaaW.PrintLast Go.Proofs.YteeihjpnhjnknaaW.PrintMore Go.Proofs.Yteeihjpnhjnknaa.GAll Go.Proofs.Yteeihjpnhjnknaa.Mem Go.Proofs.Yteeihjpnhjnknaa.Seen Go.Proofs.Yteeihjpnhjnknaa.Mk
set_option linter.unusedVariables false
set_option linter.unusedSimpArgs false
theorem numTo_rev {m : List Nat} (h0 : Sets.gt m 0 ≤ 0) : ∀ k, 0 < k → (∀ i, 0 < i → i < k → Sets.gt m i < i) → (Sets.numTo m k).2 = 1
 | 0, h, _ => absurd h (by omega)
 | 1, _, _ => by rw [Sets.numTo_new (by omega)]; rfl
 | k + 2, _, h => by
  rw [Sets.numTo_old (h (k + 1) (by omega) (by omega))]
  exact numTo_rev h0 (k + 1) (by omega) (fun i h1 h2 => h i h1 (by omega))
section
variable {n : Nat} {l : List Ed} {r : List (List Int)} {φ : Int → Int} {E : Nat → Int} {ps : List (Int × Int)}
theorem ren_parts (hm : IsMap n l r) (hp : parts n l = 1) (h0 : 0 < l.length) (hR : Ren n (nxOf l r) (toOf l) φ E) (hps : Prs (nxOf l r) (toOf l) φ ps) : parts n (eds (makeL ps)) = 1 := by
 have hw := web hm hp
 have hlen := hm.len
 have hn : 0 < n := by
  have := hw.fr (x := 0) ⟨by omega, by omega⟩
  omega
 have hpt := Sets.joinAll_part n (ends (eds (makeL ps)))
 rw [ends_eds] at hpt
 have hz : Sets.gt (Sets.joinAll (List.range n) (makeL ps)) 0 ≤ 0 := hpt.le 0 hn
 unfold parts comps_Of.out
 rw [Int.toNat_natCast]
 show (Sets.numTo (Sets.joinAll (List.range n) (ends (eds (makeL ps)))) n).2 = 1
 rw [ends_eds]
 refine numTo_rev hz n hn fun i h1 h2 => ?_
 obtain ⟨a1, a2⟩ := hR.ent i h2
 obtain ⟨b1, b2⟩ := hR.ent 0 hn
 have c := hw.fr a1
 have d := hw.fr b1
 have hc : Sets.Conn (Sets.EP n (makeL ps)) i (φ (((frm (toOf l) (E 0)).toNat : Nat) : Int)).toNat := by
  refine hw.conn (fun a => Sets.Conn (Sets.EP n (makeL ps)) i (φ ((a : Nat) : Int)).toNat) (fun h hh hP => ?_) (frm (toOf l) (E i)).toNat (frm (toOf l) (E 0)).toNat (by omega) (by omega) ?_
  ·have hx : In (nxOf l r) (h : Int) := ⟨by omega, by omega⟩
   have e1 := hw.fr hx
   have e2 := hw.to hx
   rw [Int.toNat_of_nonneg e1.1] at hP
   rw [Int.toNat_of_nonneg e2.1]
   have g1 := hR.rng _ e1.1 e1.2
   have g2 := hR.rng _ e2.1 e2.2
   have hmem := (make_mem hm hp hR hps _).2 ⟨_, hx, rfl⟩
   rcases norm_or (φ (frm (toOf l) (h : Int)), φ (too (toOf l) (h : Int))) with q | q
   ·rw [q] at hmem
    exact hP.fwd ⟨by omega, by omega, by rw [Int.toNat_of_nonneg g1.1, Int.toNat_of_nonneg g2.1]; exact hmem⟩
   ·rw [q] at hmem
    exact hP.bwd ⟨by omega, by omega, by rw [Int.toNat_of_nonneg g1.1, Int.toNat_of_nonneg g2.1]; exact hmem⟩
  ·show Sets.Conn _ i (φ (((frm (toOf l) (E i)).toNat : Nat) : Int)).toNat
   rw [Int.toNat_of_nonneg c.1, a2, Int.toNat_natCast]
   exact .refl _
 rw [Int.toNat_of_nonneg d.1, b2, Int.toNat_natCast] at hc
 have e := (hpt.iff h2 hn).2 hc
 omega
theorem ren_code (hm : IsMap n l r) (hp : parts n l = 1) (h0 : 0 < l.length) (hR : Ren n (nxOf l r) (toOf l) φ E) (hps : Prs (nxOf l r) (toOf l) φ ps) {x y : Nat} (hx : x < 2 * l.length) (e : ren (eds (makeL ps)) (toOf l) φ (x : Int) = (y : Int)) : codes n (eds (makeL ps)) (renR n (eds (makeL ps)) (nxOf l r) (toOf l) φ E) y = codes n l r x := by
 have hm' := ren_rot hm hp hR hps
 have hl : (eds (makeL ps)).length = l.length := by rw [eds_length]; exact make_len hm hp hR hps
 have hw' := web hm' (ren_parts hm hp h0 hR hps)
 have key := (ren_ism hm hp hR hps).code (web hm hp) hw' (by rw [hm.len, hm'.len, hl]) (y := (x : Int)) ⟨by omega, by rw [hm.len]; omega⟩
 rw [e] at key
 exact key
theorem ren_best (hm : IsMap n l r) (hp : parts n l = 1) (h0 : 0 < l.length) (hR : Ren n (nxOf l r) (toOf l) φ E) (hps : Prs (nxOf l r) (toOf l) φ ps) :
  codes n (eds (makeL ps)) (renR n (eds (makeL ps)) (nxOf l r) (toOf l) φ E) (bestOf n (eds (makeL ps)) (renR n (eds (makeL ps)) (nxOf l r) (toOf l) φ E)).1 = codes n l r (bestOf n l r).1 ∧ (bestOf n (eds (makeL ps)) (renR n (eds (makeL ps)) (nxOf l r) (toOf l) φ E)).2 = (bestOf n l r).2 := by
 have hm' := ren_rot hm hp hR hps
 have hl : (eds (makeL ps)).length = l.length := by rw [eds_length]; exact make_len hm hp hR hps
 have hp' := ren_parts hm hp h0 hR hps
 obtain ⟨a1, a2, a3, a4⟩ := turns_dvd hm hp h0
 obtain ⟨b1, b2, b3, b4⟩ := turns_dvd hm' hp' (by rw [hl]; exact h0)
 rw [hl] at b3 b4
 have hto : ∀ x, x < 2 * l.length → ∃ y : Nat, y < 2 * l.length ∧ ren (eds (makeL ps)) (toOf l) φ (x : Int) = (y : Int) ∧ codes n (eds (makeL ps)) (renR n (eds (makeL ps)) (nxOf l r) (toOf l) φ E) y = codes n l r x := fun x hx => by
  obtain ⟨y, y1, y2, _⟩ := ren_at hm hp hR hps (x := (x : Int)) ⟨by omega, by rw [hm.len]; omega⟩
  exact ⟨y, y2, y1, ren_code hm hp h0 hR hps hx y1⟩
 have hfrom : ∀ y, y < 2 * l.length → ∃ x : Nat, x < 2 * l.length ∧ ren (eds (makeL ps)) (toOf l) φ (x : Int) = (y : Int) ∧ codes n (eds (makeL ps)) (renR n (eds (makeL ps)) (nxOf l r) (toOf l) φ E) y = codes n l r x := fun y hy => by
  obtain ⟨x, hx, e⟩ := ren_onto hm hp hR hps hy
  obtain ⟨k, rfl, hk⟩ := hx.nat
  rw [hm.len] at hk
  exact ⟨k, hk, e, ren_code hm hp h0 hR hps hk e⟩
 have q1 : (bestOf n l r).1 < 2 * l.length := by
  have := (bst_le (codes n l r) (2 * l.length - 1)).1
  unfold bestOf; omega
 have q2 : (bestOf n (eds (makeL ps)) (renR n (eds (makeL ps)) (nxOf l r) (toOf l) φ E)).1 < 2 * l.length := by
  have := (bst_le (codes n (eds (makeL ps)) (renR n (eds (makeL ps)) (nxOf l r) (toOf l) φ E)) (2 * (eds (makeL ps)).length - 1)).1
  unfold bestOf; omega
 have he : codes n (eds (makeL ps)) (renR n (eds (makeL ps)) (nxOf l r) (toOf l) φ E) (bestOf n (eds (makeL ps)) (renR n (eds (makeL ps)) (nxOf l r) (toOf l) φ E)).1 = codes n l r (bestOf n l r).1 := by
  obtain ⟨x, x1, x2, x3⟩ := hfrom _ q2
  obtain ⟨y, y1, y2, y3⟩ := hto _ q1
  refine ltB_eq _ _ ?_ ?_
  ·rw [x3]; exact a4 x x1
  ·rw [← y3]; exact b4 y y1
 refine ⟨he, ?_⟩
 rw [a3, b3, he]
 refine Nat.le_antisymm ?_ ?_
 ·classical
  unfold hits
  refine inj_le _ _ (fun y => if h : ∃ x : Nat, x < 2 * l.length ∧ ren (eds (makeL ps)) (toOf l) φ (x : Int) = (y : Int) ∧ codes n (eds (makeL ps)) (renR n (eds (makeL ps)) (nxOf l r) (toOf l) φ E) y = codes n l r x then Classical.choose h else 0) (List.Pairwise.filter _ List.nodup_range) (fun y hy => ?_) (fun y hy z hz e => ?_)
  ·rw [List.mem_filter, List.mem_range, decide_eq_true_eq] at hy ⊢
   have h := hfrom y hy.1
   rw [dif_pos h]
   have hs := Classical.choose_spec h
   exact ⟨hs.1, by rw [← hs.2.2]; exact hy.2⟩
  ·rw [List.mem_filter, List.mem_range] at hy hz
   have h := hfrom y hy.1
   have k := hfrom z hz.1
   rw [dif_pos h, dif_pos k] at e
   have hs := (Classical.choose_spec h).2.1
   have ks := (Classical.choose_spec k).2.1
   rw [e, ks] at hs
   omega
 ·unfold hits
  refine inj_le _ _ (fun x => (ren (eds (makeL ps)) (toOf l) φ (x : Int)).toNat) (List.Pairwise.filter _ List.nodup_range) (fun x hx => ?_) (fun x hx z hz e => ?_)
  ·rw [List.mem_filter, List.mem_range, decide_eq_true_eq] at hx ⊢
   obtain ⟨y, y1, y2, y3⟩ := hto x hx.1
   rw [y2, Int.toNat_natCast]
   exact ⟨y1, by rw [y3]; exact hx.2⟩
  ·rw [List.mem_filter, List.mem_range] at hx hz
   obtain ⟨y, y1, y2, y3⟩ := hto x hx.1
   obtain ⟨u, u1, u2, u3⟩ := hto z hz.1
   have := ren_inj hm hp hR hps (x := (x : Int)) (y := (z : Int)) ⟨by omega, by rw [hm.len]; omega⟩ ⟨by omega, by rw [hm.len]; omega⟩ (by rw [y2, u2] at e ⊢; rw [Int.toNat_natCast, Int.toNat_natCast] at e; rw [e])
   omega
end
end Go.Proofs.Yteeihjpnhjnknaa.Rot
namespace Go.Proofs.Yteeihjpnhjnknaa.Mk
open Go.Proofs.Yteeihjpnhjnknaa.Rot Go.RowKit Go.Proofs.YteeihjpnhjnknaaW.PrintWords Go.Proofs.YteeihjpnhjnknaaW.PrintLast Go.Proofs.YteeihjpnhjnknaaW.PrintMore Go.Proofs.Yteeihjpnhjnknaa.GAll Go.Proofs.Yteeihjpnhjnknaa.Mem Go.Proofs.Yteeihjpnhjnknaa.Seen
set_option linter.unusedVariables false
set_option linter.unusedSimpArgs false
def offs (rows : List (List Int)) (k : Nat) : Nat := ((rows.take k).flatMap blk).length
def prsTo (rows : List (List Int)) (v j : Nat) : List (Int × Int) := ((List.range v).flatMap fun u => (gl rows u).map fun x => ((u : Int), x)) ++ ((gl rows v).take j).map fun x => ((v : Int), x)
theorem mem_prs {rows : List (List Int)} {p : Int × Int} : p ∈ prsTo rows rows.length 0 ↔ ∃ v j, v < rows.length ∧ j < (gl rows v).length ∧ p = ((v : Int), gi (gl rows v) j) := by
 unfold prsTo
 rw [List.take_zero, List.map_nil, List.append_nil, List.mem_flatMap]
 constructor
 ·rintro ⟨v, hv, hp⟩
  rw [List.mem_map] at hp
  obtain ⟨x, hx, rfl⟩ := hp
  obtain ⟨j, hj, rfl⟩ := List.mem_iff_getElem.1 hx
  exact ⟨v, j, List.mem_range.1 hv, hj, by rw [gi_get hj]⟩
 ·rintro ⟨v, j, hv, hj, rfl⟩
  exact ⟨v, List.mem_range.2 hv, List.mem_map.2 ⟨_, List.getElem_mem hj, by rw [gi_get hj]⟩⟩
end Go.Proofs.Yteeihjpnhjnknaa.Mk
namespace Go.Proofs.Yteeihjpnhjnknaa.Open
open Go.RowKit Go.Proofs.YteeihjpnhjnknaaW.PrintWords Go.Proofs.YteeihjpnhjnknaaW.PrintLast Go.Proofs.YteeihjpnhjnknaaW.PrintMore Go.ChangeShapes Go.WideShapes Go.Deep
set_option linter.unusedVariables false
set_option linter.unusedSimpArgs false
def I64 (n : Int) : Prop := -9223372036854775808 ≤ n ∧ n ≤ 9223372036854775807
def Opens {α : Type} (P : Program) (t : TypeId) (d : Kd α) (good : α → Prop) : Prop :=
 ∀ {H : Type} (enc : TypeId × Value → H) (w : World) (fuel : Nat) (cs : List Value) (x : DataW H × List MemPlace),
  DataW.trod enc P w 0 (fun _ => true) true fuel t cs = some x → (x.1.weights P t).all (· ≤ reachBytes) = true → ∃ v, d.K w v cs ∧ good v
section
variable {P : Program} {α β : Type}
theorem opens_int {t : TypeId} (ht : P.underlying t = some (.int .i64)) : Opens P t (Kd.int .i64) I64 := by
 intro H enc w fuel cs x h _
 obtain ⟨n, rfl, _, hw⟩ := DataW.trod_int ht h
 refine ⟨n, rfl, ?_⟩
 have hmin : IntKind.i64.min = -9223372036854775808 := rfl
 have hmax : IntKind.i64.max = 9223372036854775807 := rfl
 simp only [Lit.wf, Bool.and_eq_true, decide_eq_true_eq] at hw
 unfold I64; omega
theorem weightsAll_mem {H : Type} {e : TypeId} {l : List (DataW H)} (h : (DataW.weightsAll P e l).all (· ≤ reachBytes) = true) {d : DataW H} (hd : d ∈ l) : (d.weights P e).all (· ≤ reachBytes) = true := by
 induction l with
 | nil => cases hd
 | cons a l ih =>
  unfold DataW.weightsAll at h
  rw [List.all_append, Bool.and_eq_true] at h
  rcases List.mem_cons.1 hd with rfl | hd
  ·exact h.1
  ·exact ih h.2 hd
theorem opens_slice {t e : TypeId} {d : Kd α} {good : α → Prop} {B : Nat} (ht : P.underlying t = some (.slice e)) (hc : P.cellsOf e = d.sz) (hB : P.bytesOf e = B) (ho : Opens P e d good) (dflt : α) :
  Opens P t (Kd.slice e d) (fun xs => xs.length * B ≤ 140737488351232 ∧ ∀ x ∈ xs, good x) := by
 intro H enc w fuel cs x h hwt
 rcases open_slice ht h with ⟨rfl, rfl⟩ | ⟨a, len, cap, m, n, D, Pl, rfl, hb, hl, hm, hmm, rfl, hx⟩
 ·exact ⟨[], ⟨none, 0, rfl, Nat.le_refl _, rfl, by simp, fun h => absurd h (by simp)⟩, by simp, by simp⟩
 ·simp only [if_true] at hmm
  subst hmm
  unfold DataW.weights at hwt
  rw [ht] at hwt
  simp only [List.all_cons, List.all_append, Bool.and_eq_true, decide_eq_true_eq, List.length_map, List.length_range, hB] at hwt
  obtain ⟨hw1, hw2, _⟩ := hwt
  have each : ∀ i, i < len → ∃ v : α × List Value, v.2.length = d.sz ∧ d.K w v.1 v.2 ∧ good v.1 ∧ ∀ k u, v.2[k]? = some u → w.cell? (a.add (i * d.sz + k)) = some u := by
   intro i hi
   obtain ⟨cs', h1, h2⟩ := hx i (by omega)
   rw [hc] at h1
   obtain ⟨_, hlen, hcell⟩ := World.cells?_some h1
   obtain ⟨v, hv, hg⟩ := ho enc w n cs' _ h2 (weightsAll_mem hw2 (List.mem_map.2 ⟨i, List.mem_range.2 hi, rfl⟩))
   refine ⟨(v, cs'), hlen, hv, hg, fun k u hk => ?_⟩
   have hk2 : k < d.sz := by
    have hk3 : k < cs'.length := (List.getElem?_eq_some_iff.1 hk).1
    omega
   have := hcell k hk2
   rw [Go.Deep.add_add] at this
   rw [this]; exact hk
  haveI : Inhabited (α × List Value) := ⟨(dflt, [])⟩
  obtain ⟨q, hq⟩ := choose_lt each
  have hlen : ((List.range len).map fun i => (q i).1).length = len := by simp
  have hget : ∀ j p, ((List.range len).map fun i => (q i).1)[j]? = some p → j < len ∧ p = (q j).1 := by
   intro j p hj
   rw [List.getElem?_map] at hj
   by_cases hjl : j < len
   ·rw [List.getElem?_range hjl] at hj
    exact ⟨hjl, by simpa using hj.symm⟩
   ·rw [List.getElem?_eq_none (by simp; omega)] at hj; simp at hj
  refine ⟨(List.range len).map fun i => (q i).1, ⟨some a, m, by rw [hlen], by rw [hlen]; exact hl, by rw [hlen], ?_, fun _ => ⟨a, rfl, fun j p hj => ?_⟩⟩, ?_, ?_⟩
  ·rw [hlen]; unfold maxLen at hm; omega
  ·obtain ⟨hjl, rfl⟩ := hget j p hj
   exact ⟨(q j).2, (hq j hjl).1, (hq j hjl).2.1, (hq j hjl).2.2.2⟩
  ·rw [hlen]
   have h5 : len * B ≤ (len + (m - len)) * B := Nat.mul_le_mul_right _ (by omega)
   have h6 : reachBytes = 140737488351232 := rfl
   omega
  ·intro v hv
   obtain ⟨i, hi, rfl⟩ := List.mem_map.1 hv
   exact (hq i (List.mem_range.1 hi)).2.2.1
theorem opens_two {t : TypeId} {f0 f1 : Field} {a : Kd α} {b : Kd β} {ga : α → Prop} {gb : β → Prop} (ht : P.underlying t = some (.struct #[f0, f1])) (h0 : Opens P f0.type a ga) (h1 : Opens P f1.type b gb)
  (o0 : f0.offset = 0) (o1 : f1.offset = a.sz) (c0 : P.cellsOf f0.type = a.sz) (c1 : P.cellsOf f1.type = b.sz) (ct : P.cellsOf t = a.sz + b.sz) : Opens P t (Kd.pair a b) (fun x => ga x.1 ∧ gb x.2) := by
 intro H enc w fuel cs x h hwt
 obtain ⟨xs, n, _, rfl, hcl, hxl, hf⟩ := DataW.trod_struct ht h
 match xs, hxl with
 | [y0, y1], _ =>
  have g0 := hf 0 f0 rfl
  have g1 := hf 1 f1 rfl
  rw [o0, c0] at g0
  rw [o1, c1] at g1
  unfold DataW.weights at hwt
  rw [ht] at hwt
  simp only [List.map_cons, List.map_nil, DataW.weightsEach, List.all_append, Bool.and_eq_true] at hwt
  obtain ⟨hw0, hw1, _⟩ := hwt
  rw [List.drop_zero] at g0
  obtain ⟨v0, k0, q0⟩ := h0 enc w n _ y0 g0 hw0
  obtain ⟨v1, k1, q1⟩ := h1 enc w n _ y1 g1 hw1
  refine ⟨(v0, v1), ⟨_, _, ?_, k0, k1⟩, q0, q1⟩
  rw [List.take_of_length_le (l := cs.drop a.sz) (by rw [List.length_drop]; omega), List.take_append_drop]
theorem opens_iso {t : TypeId} {d : Kd α} {good : α → Prop} {f : β → α} (g : α → β) (hg : ∀ x, f (g x) = x) (h : Opens P t d good) : Opens P t (Kd.iso d f) (fun y => good (f y)) := by
 intro H enc w fuel cs x hx hw
 obtain ⟨v, k, q⟩ := h enc w fuel cs x hx hw
 exact ⟨g v, by show d.K w (f (g v)) cs; rw [hg]; exact k, by show good (f (g v)); rw [hg]; exact q⟩
theorem open_arg {H : Type} {enc : TypeId × Value → H} {w : World} {t : TypeId} {d : Kd α} {good : α → Prop} {v : Value} {dd : DataW H} {ps : List MemPlace} (ho : Opens P t d good) (h : DataW.Trod enc P w 0 (fun _ => true) true t v dd ps)
  (hw : (dd.weights P t).all (· ≤ reachBytes) = true) : ∃ x, d.K w x v.cells.toList ∧ good x := by
 obtain ⟨fuel, hf⟩ := h
 exact ho enc w fuel _ _ hf hw
theorem weight_at {H : Type} {ts : List TypeId} {ds : List (DataW H)} (h : (DataW.weightsEach P ts ds).all (· ≤ reachBytes) = true) : ∀ {j : Nat} {t : TypeId} {d : DataW H}, ts[j]? = some t → ds[j]? = some d → (d.weights P t).all (· ≤ reachBytes) = true := by
 induction ts generalizing ds with
 | nil => intro j t d ht; simp at ht
 | cons a ts ih =>
  cases ds with
  | nil => intro j t d _ hd; simp at hd
  | cons b ds =>
   unfold DataW.weightsEach at h
   rw [List.all_append, Bool.and_eq_true] at h
   intro j t d ht hd
   cases j with
   | zero =>
    obtain rfl : a = t := by simpa using ht
    obtain rfl : b = d := by simpa using hd
    exact h.1
   | succ j => exact ih h.2 (by simpa using ht) (by simpa using hd)
theorem of_slice {w : World} {e : Nat} {d : Kd α} {xs : List α} {A : Option Addr} {n c : Nat} (h : (Kd.slice e d).K w xs [.slice A n c]) : n = xs.length ∧ xs.length ≤ c ∧ d.C w A xs.length xs := by
 obtain ⟨A', c', he, hl, hc⟩ := h
 simp only [List.cons.injEq, Value.slice.injEq, and_true] at he
 obtain ⟨rfl, rfl, rfl⟩ := he
 exact ⟨rfl, hl, hc⟩
end
end Go.Proofs.Yteeihjpnhjnknaa.Open
namespace Go.Proofs.Yteeihjpnhjnknaa.Mk
open Go.Proofs.Yteeihjpnhjnknaa.Rot Go.RowKit Go.Proofs.YteeihjpnhjnknaaW.PrintWords Go.Proofs.YteeihjpnhjnknaaW.PrintLast Go.Proofs.YteeihjpnhjnknaaW.PrintMore Go.Proofs.Yteeihjpnhjnknaa.GAll Go.Proofs.Yteeihjpnhjnknaa.Mem Go.Proofs.Yteeihjpnhjnknaa.Seen
set_option linter.unusedVariables false
set_option linter.unusedSimpArgs false
theorem info_pair : (Try.prog.info? 84).map (fun i => (i.zero, i.size, i.bytes)) = some (some (.agg #[.int .i64 0, .int .i64 0]), 2, 16) := by kernel_rfl
theorem of_calls (k n : Nat) (Ag : Option Addr) (cg : Nat) (es : List (Int × Int)) (Aa : Option Addr) (ca : Nat) (rows r' : List (List Int)) (w : World) (hn : rows.length = n) (hg : Kd.C kp w Ag es.length es) (hc : es.length ≤ cg) (h : Kd.C KR w Aa rows.length rows) (hca : rows.length ≤ ca) (hk : tangramref11_Of.f k (n : Int) (eds es) rows = some (r', 0, 0)) :
  Calls Try.prog 28 #[.agg #[.int .i64 (n : Int), .slice Ag es.length cg], .slice Aa n ca] w fun e w' => ∃ v, e = .returned (.tuple #[v, .int .i64 0, .int .i64 0]) ∧ Kd.S KR 32 w' w.heap.size (fun _ => True) v r' ∧ Below w.heap.size w w' := by
 subst hn
 have := tangramref11_Of.calls k (rows.length : Int) Ag cg (eds es) Aa ca rows r' 0 0 w (by rw [eds_length]; exact C_eds hg) (by rw [eds_length]; exact hc) h hca hk
 rw [eds_length] at this
 exact this
end Go.Proofs.Yteeihjpnhjnknaa.Mk
namespace Go.Proofs.Yteeihjpnhjnknaa.GAll
open Go.RowKit Go.Proofs.YteeihjpnhjnknaaW.PrintWords Go.Proofs.YteeihjpnhjnknaaW.PrintLast Go.Proofs.YteeihjpnhjnknaaW.PrintMore
attribute [local go_sem] max2_int min2_int max_two min_two max_three min_three max_four min_four   -- for this text's walks alone
set_option linter.unusedVariables false
set_option linter.unusedSimpArgs false
def canon_Code.f (k : Nat) (a0_0 : Int) (l0_1 : List S89) (l1 : List (List Int)) : Option (List Int × Int) := (canon_one.f k a0_0 l0_1 l1).bind fun t => if t.2.2.2 = 0 then (canon_plane_best.f k t.1 t.2.1 t.2.2.1).bind fun u => some (u.1, 0) else some ([], t.2.2.2)
theorem canon_Code.mono : ∀ a0 a1 a2 k, LeO (canon_Code.f k a0 a1 a2) (canon_Code.f (k + 1) a0 a1 a2) := fun _ _ _ _ =>
 LeO.bind (canon_one.mono _ _ _ _) (fun _ => LeO.ite (LeO.bind (canon_plane_best.mono _ _ _ _) (fun _ => LeO.refl _)) (LeO.refl _))
theorem canon_Code.calls (k : Nat) (a0_0 : Int) (A0_1 : Option Addr) (c0_1 : Nat) (l0_1 : List (S89)) (A1 : Option Addr) (c1 : Nat) (l1 : List (List Int)) (r1 : List Int) (r2 : Int) (w : World) (hr0_1 : Kd.C k89 w A0_1 l0_1.length l0_1) (hc0_1 : l0_1.length ≤ c0_1) (hr1 : Kd.C (Kd.slice 3 (Kd.int .i64)) w A1 l1.length l1) (hc1 : l1.length ≤ c1) (h : canon_Code.f k a0_0 l0_1 l1 = some (r1, r2)) :
  Calls Try.prog 16 #[.agg #[.int .i64 a0_0, .slice A0_1 l0_1.length c0_1], .slice A1 l1.length c1] w fun e w' => ∃ v0_ : Value, e = .returned (.tuple #[v0_, .int .i64 r2]) ∧ Kd.R (Kd.int .i64) 3 w' w.heap.size (fun _ => True) v0_ r1 ∧ Below w.heap.size w w' := by
 obtain ⟨⟨n, nx, tl, e⟩, ht, h⟩ := Option.bind_eq_some_iff.mp h
 simp only at h
 refine One.code_calls a0_0 A0_1 l0_1.length c0_1 _ n nx tl e w (fun W hW => canon_one.calls k a0_0 A0_1 c0_1 l0_1 A1 c1 l1 n nx tl e W (Kd.C_below hr0_1 hW) hc0_1 (Kd.C_below hr1 hW) hc1 ht) (r1, r2) (fun he => ?_) (fun he => ?_)
 ·rw [if_neg he] at h
  exact (Option.some.inj h).symm
 ·rw [if_pos he] at h
  obtain ⟨⟨cd, od, j⟩, hu, h⟩ := Option.bind_eq_some_iff.mp h
  obtain ⟨rfl, rfl⟩ : cd = r1 ∧ 0 = r2 := by simpa using h
  exact ⟨rfl, j, fun W B1 d1 B2 d2 g1 g2 g3 g4 => (canon_plane_best.calls k n B1 d1 nx B2 d2 tl cd od j W g1 g2 g3 g4 hu).mono fun _ _ ⟨v0, v1, q1, q2, _, q4⟩ => ⟨v0, v1, q1, Kd.R_mono q2 (fun _ _ => trivial), q4⟩⟩
def canon_Turns.f (k : Nat) (a0_0 : Int) (l0_1 : List S89) (l1 : List (List Int)) : Option (Int × Int) := (canon_one.f k a0_0 l0_1 l1).bind fun t => if t.2.2.2 = 0 then (canon_plane_best.f k t.1 t.2.1 t.2.2.1).bind fun u => some (u.2.2, 0) else some (0, t.2.2.2)
theorem canon_Turns.mono : ∀ a0 a1 a2 k, LeO (canon_Turns.f k a0 a1 a2) (canon_Turns.f (k + 1) a0 a1 a2) := fun _ _ _ _ =>
 LeO.bind (canon_one.mono _ _ _ _) (fun _ => LeO.ite (LeO.bind (canon_plane_best.mono _ _ _ _) (fun _ => LeO.refl _)) (LeO.refl _))
theorem canon_Turns.calls (k : Nat) (a0_0 : Int) (A0_1 : Option Addr) (c0_1 : Nat) (l0_1 : List (S89)) (A1 : Option Addr) (c1 : Nat) (l1 : List (List Int)) (r1 : Int) (r2 : Int) (w : World) (hr0_1 : Kd.C k89 w A0_1 l0_1.length l0_1) (hc0_1 : l0_1.length ≤ c0_1) (hr1 : Kd.C (Kd.slice 3 (Kd.int .i64)) w A1 l1.length l1) (hc1 : l1.length ≤ c1) (h : canon_Turns.f k a0_0 l0_1 l1 = some (r1, r2)) :
  Calls Try.prog 18 #[.agg #[.int .i64 a0_0, .slice A0_1 l0_1.length c0_1], .slice A1 l1.length c1] w fun e w' => e = .returned (.tuple #[.int .i64 r1, .int .i64 r2]) ∧ Below w.heap.size w w' := by
 obtain ⟨⟨n, nx, tl, e⟩, ht, h⟩ := Option.bind_eq_some_iff.mp h
 simp only at h
 refine One.turns_calls a0_0 A0_1 l0_1.length c0_1 _ n nx tl e w (fun W hW => canon_one.calls k a0_0 A0_1 c0_1 l0_1 A1 c1 l1 n nx tl e W (Kd.C_below hr0_1 hW) hc0_1 (Kd.C_below hr1 hW) hc1 ht) (r1, r2) (fun he => ?_) (fun he => ?_)
 ·rw [if_neg he] at h
  exact (Option.some.inj h).symm
 ·rw [if_pos he] at h
  obtain ⟨⟨cd, od, j⟩, hu, h⟩ := Option.bind_eq_some_iff.mp h
  obtain ⟨rfl, rfl⟩ : j = r1 ∧ 0 = r2 := by simpa using h
  exact ⟨rfl, cd, fun W B1 d1 B2 d2 g1 g2 g3 g4 => (canon_plane_best.calls k n B1 d1 nx B2 d2 tl cd od j W g1 g2 g3 g4 hu).mono fun _ _ ⟨v0, v1, q1, q2, _, q4⟩ => ⟨v0, v1, q1, Kd.R_mono q2 (fun _ _ => trivial), q4⟩⟩
end Go.Proofs.Yteeihjpnhjnknaa.GAll
namespace Go.Proofs.Yteeihjpnhjnknaa.GAll
open Go.RowKit Go.Proofs.YteeihjpnhjnknaaW.PrintWords Go.Proofs.YteeihjpnhjnknaaW.PrintLast Go.Proofs.YteeihjpnhjnknaaW.PrintMore
attribute [local go_sem] max2_int min2_int max_two min_two max_three min_three max_four min_four   -- for this text's walks alone
set_option linter.unusedVariables false
set_option linter.unusedSimpArgs false
def canon_Match.out (n1 : Int) (x y : List Int) : Option (List Int × Bool × Int) :=
 if (decide (0 ≤ n1 ∧ n1 ≤ 1048576 ∧ x.length ≤ y.length ∧ x.length ≤ 1048576) && x.all fun v => decide (0 ≤ v ∧ v < n1)) = true then some (Match.putL x y n1.toNat x.length, true, 0) else none
def canon_Match.both (k : Nat) (n1 : Int) (a b : Int × List Int × List Int × Int × Int) : Option (List Int × Bool × Int) :=
 (canon_plane_best.f k a.1 a.2.1 a.2.2.1).bind fun x => (canon_plane_best.f k b.1 b.2.1 b.2.2.1).bind fun y => (canon_less_int.f k x.1 y.1).bind fun s1 =>
  if s1 = true then some ([], false, 0) else (canon_less_int.f k y.1 x.1).bind fun s2 => if s2 = true then some ([], false, 0) else canon_Match.out n1 x.2.1 y.2.1
def canon_Match.f (k : Nat) (a0_0 : Int) (l0_1 : List S89) (l1 : List (List Int)) (a2_0 : Int) (l2_1 : List S89) (l3 : List (List Int)) : Option (List Int × Bool × Int) :=
 (canon_look.f k a0_0 l0_1 l1).bind fun a => (canon_look.f k a2_0 l2_1 l3).bind fun b =>
  if a.2.2.2.1 = 1 ∨ b.2.2.2.1 = 1 then some ([], false, 1) else if Match.firstE [a.2.2.2.1, b.2.2.2.1, a.2.2.2.2, b.2.2.2.2] = 0 then canon_Match.both k a0_0 a b else some ([], false, Match.firstE [a.2.2.2.1, b.2.2.2.1, a.2.2.2.2, b.2.2.2.2])
theorem canon_Match.mono : ∀ a0 a1 a2 a3 a4 a5 k, LeO (canon_Match.f k a0 a1 a2 a3 a4 a5) (canon_Match.f (k + 1) a0 a1 a2 a3 a4 a5) := by
 intro a0 a1 a2 a3 a4 a5 k
 unfold canon_Match.f
 refine LeO.bind (canon_look.mono _ _ _ _) (fun a => LeO.bind (canon_look.mono _ _ _ _) (fun b => LeO.ite (LeO.refl _) (LeO.ite ?_ (LeO.refl _))))
 unfold canon_Match.both
 refine LeO.bind (canon_plane_best.mono _ _ _ _) (fun x => LeO.bind (canon_plane_best.mono _ _ _ _) (fun y => LeO.bind (canon_less_int.mono _ _ _) (fun s => LeO.ite (LeO.refl _) ?_)))
 exact LeO.bind (canon_less_int.mono _ _ _) (fun s => LeO.refl _)
theorem canon_Match.looks {k : Nat} {n : Int} {A : Option Addr} {c : Nat} {l : List S89} {A1 : Option Addr} {c1 : Nat} {r : List (List Int)} {p : Int} {nx tl : List Int} {e a : Int} {w : World} (hr : Kd.C k89 w A l.length l) (hc : l.length ≤ c) (hr1 : Kd.C (Kd.slice 3 (Kd.int .i64)) w A1 r.length r) (hc1 : r.length ≤ c1) (h : canon_look.f k n l r = some (p, nx, tl, e, a)) :
  Match.LookSays #[.int .i64 n, .slice A l.length c] (.slice A1 r.length c1) p nx tl e a w := fun W hW =>
 (canon_look.calls k n A c l A1 c1 r p nx tl e a W (Kd.C_below hr hW) hc (Kd.C_below hr1 hW) hc1 h).mono fun e' w' ⟨v1, v2, h1, h2, h3, h4⟩ => by
  obtain ⟨B1, d1, e1, hd1, hC1⟩ := Kd.R_reads h2
  obtain ⟨B2, d2, e2, hd2, hC2⟩ := Kd.R_reads h3
  exact ⟨v1, v2, h1, ⟨B1, d1, B2, d2, e1, hd1, hC1, e2, hd2, hC2⟩, h4⟩
theorem canon_Match.bests {k : Nat} {n : Int} {nx tl cd od : List Int} {m : Int} (h : canon_plane_best.f k n nx tl = some (cd, od, m)) : Match.BestSays n nx tl cd od m := fun W A1 c1 A2 c2 h1 h2 h3 h4 =>
 (canon_plane_best.calls k n A1 c1 nx A2 c2 tl cd od m W h1 h2 h3 h4 h).mono fun e' w' ⟨v1, v2, h1, h2, h3, h4⟩ => by
  obtain ⟨B1, d1, e1, hd1, hC1⟩ := Kd.R_reads h2
  obtain ⟨B2, d2, e2, hd2, hC2⟩ := Kd.R_reads h3
  exact ⟨v1, v2, h1, ⟨B1, d1, B2, d2, e1, hd1, hC1, e2, hd2, hC2⟩, h4⟩
theorem canon_Match.lesses {k : Nat} {a b : List Int} {r : Bool} (h : canon_less_int.f k a b = some r) : Match.LessSays a b r := fun W A c B d h1 h2 h3 h4 =>
 (canon_less_int.calls k A c a B d b r W h1 h2 h3 h4 h).mono fun e' w' ⟨h1, h2⟩ => ⟨h1, h2.below⟩
set_option maxHeartbeats 1000000 in
theorem canon_Match.calls (k : Nat) (a0_0 : Int) (A0_1 : Option Addr) (c0_1 : Nat) (l0_1 : List (S89)) (A1 : Option Addr) (c1 : Nat) (l1 : List (List Int)) (a2_0 : Int) (A2_1 : Option Addr) (c2_1 : Nat) (l2_1 : List (S89)) (A3 : Option Addr) (c3 : Nat) (l3 : List (List Int)) (r1 : List Int) (r2 : Bool) (r3 : Int) (w : World) (hr0_1 : Kd.C k89 w A0_1 l0_1.length l0_1) (hc0_1 : l0_1.length ≤ c0_1) (hr1 : Kd.C (Kd.slice 3 (Kd.int .i64)) w A1 l1.length l1) (hc1 : l1.length ≤ c1) (hr2_1 : Kd.C k89 w A2_1 l2_1.length l2_1) (hc2_1 : l2_1.length ≤ c2_1) (hr3 : Kd.C (Kd.slice 3 (Kd.int .i64)) w A3 l3.length l3) (hc3 : l3.length ≤ c3) (h : canon_Match.f k a0_0 l0_1 l1 a2_0 l2_1 l3 = some (r1, r2, r3)) :
  Calls Try.prog 20 #[.agg #[.int .i64 a0_0, .slice A0_1 l0_1.length c0_1], .slice A1 l1.length c1, .agg #[.int .i64 a2_0, .slice A2_1 l2_1.length c2_1], .slice A3 l3.length c3] w fun e w' => ∃ v0_ : Value, e = .returned (.tuple #[v0_, .bool r2, .int .i64 r3]) ∧ Kd.R (Kd.int .i64) 3 w' w.heap.size (fun _ => True) v0_ r1 ∧ Below w.heap.size w w' := by
 obtain ⟨⟨p1, nx1, tl1, e1, a1⟩, hl1, h⟩ := Option.bind_eq_some_iff.mp h
 obtain ⟨⟨p2, nx2, tl2, e2, a2⟩, hl2, h⟩ := Option.bind_eq_some_iff.mp h
 simp only at h
 have s1 := canon_Match.looks hr0_1 hc0_1 hr1 hc1 hl1
 have s2 := canon_Match.looks hr2_1 hc2_1 hr3 hc3 hl2
 by_cases c0 : e1 = 1 ∨ e2 = 1
 ·rw [if_pos c0] at h
  have hres : (([] : List Int), false, (1 : Int)) = (r1, r2, r3) := by simpa using h
  exact Match.match_calls a0_0 A0_1 l0_1.length c0_1 (.slice A1 l1.length c1) a2_0 A2_1 l2_1.length c2_1 (.slice A3 l3.length c3) p1 nx1 tl1 e1 a1 p2 nx2 tl2 e2 a2 [] [] [] [] 0 0 false false w s1 s2 (r1, r2, r3) (fun _ => hres.symm) (fun q => absurd c0 q) (fun q => absurd c0 q)
 ·rw [if_neg c0] at h
  by_cases cf : Match.firstE [e1, e2, a1, a2] = 0
  ·rw [if_pos cf] at h
   obtain ⟨⟨cd1, od1, k1⟩, hb1, h⟩ := Option.bind_eq_some_iff.mp h
   obtain ⟨⟨cd2, od2, k2⟩, hb2, h⟩ := Option.bind_eq_some_iff.mp h
   obtain ⟨ls1, hx1, h⟩ := Option.bind_eq_some_iff.mp h
   simp only at hx1 h hb1 hb2
   have key := fun (ls2 : Bool) (q : ls1 = false → Match.LessSays cd2 cd1 ls2) => Match.match_calls a0_0 A0_1 l0_1.length c0_1 (.slice A1 l1.length c1) a2_0 A2_1 l2_1.length c2_1 (.slice A3 l3.length c3) p1 nx1 tl1 e1 a1 p2 nx2 tl2 e2 a2 cd1 od1 cd2 od2 k1 k2 ls1 ls2 w s1 s2 (r1, r2, r3) (fun q => absurd q c0) (fun _ q => absurd cf q)
   cases ls1 with
   | true =>
    rw [if_pos rfl] at h
    have hres : (([] : List Int), false, (0 : Int)) = (r1, r2, r3) := by simpa using h
    exact key false (fun q => by cases q) (fun _ _ => ⟨canon_Match.bests hb1, canon_Match.bests hb2, canon_Match.lesses hx1, (fun q => by cases q), fun _ => hres.symm, (fun q => by cases q), (fun q => by cases q)⟩)
   | false =>
    rw [if_neg (by decide)] at h
    obtain ⟨ls2, hx2, h⟩ := Option.bind_eq_some_iff.mp h
    cases ls2 with
    | true =>
     rw [if_pos rfl] at h
     have hres : (([] : List Int), false, (0 : Int)) = (r1, r2, r3) := by simpa using h
     exact key true (fun _ => canon_Match.lesses hx2) (fun _ _ => ⟨canon_Match.bests hb1, canon_Match.bests hb2, canon_Match.lesses hx1, fun _ => canon_Match.lesses hx2, (fun q => by cases q), fun _ _ => hres.symm, (fun _ q => by cases q)⟩)
    | false =>
     rw [if_neg (by decide)] at h
     unfold canon_Match.out at h
     by_cases ho : (decide (0 ≤ a0_0 ∧ a0_0 ≤ 1048576 ∧ od1.length ≤ od2.length ∧ od1.length ≤ 1048576) && od1.all fun v => decide (0 ≤ v ∧ v < a0_0)) = true
     ·rw [if_pos ho] at h
      rw [Bool.and_eq_true, decide_eq_true_eq, List.all_eq_true] at ho
      obtain ⟨⟨g1, g2, g3, g4⟩, g5⟩ := ho
      have hres : (Match.putL od1 od2 a0_0.toNat od1.length, true, (0 : Int)) = (r1, r2, r3) := by simpa using h
      refine key false (fun _ => canon_Match.lesses hx2) (fun _ _ => ⟨canon_Match.bests hb1, canon_Match.bests hb2, canon_Match.lesses hx1, fun _ => canon_Match.lesses hx2, fun q => (by cases q), fun _ q => (by cases q), fun _ _ => ⟨a0_0.toNat, by omega, by omega, g3, g4, fun i hi => ?_, hres.symm⟩⟩)
      have hm : Mem.gi od1 i ∈ od1 := by
       unfold Mem.gi
       rw [List.getD_eq_getElem?_getD, List.getElem?_eq_getElem hi]
       exact List.getElem_mem hi
      have := of_decide_eq_true (g5 _ hm)
      omega
     ·rw [if_neg ho] at h; cases h
  ·rw [if_neg cf] at h
   have hres : (([] : List Int), false, Match.firstE [e1, e2, a1, a2]) = (r1, r2, r3) := by simpa using h
   exact Match.match_calls a0_0 A0_1 l0_1.length c0_1 (.slice A1 l1.length c1) a2_0 A2_1 l2_1.length c2_1 (.slice A3 l3.length c3) p1 nx1 tl1 e1 a1 p2 nx2 tl2 e2 a2 [] [] [] [] 0 0 false false w s1 s2 (r1, r2, r3) (fun q => absurd q c0) (fun _ _ => hres.symm) (fun _ q => absurd q cf)
end Go.Proofs.Yteeihjpnhjnknaa.GAll
namespace Go.Proofs.Yteeihjpnhjnknaa.GAll
open Go.RowKit Go.Proofs.YteeihjpnhjnknaaW.PrintWords Go.Proofs.YteeihjpnhjnknaaW.PrintLast Go.Proofs.YteeihjpnhjnknaaW.PrintMore
attribute [local go_sem] max2_int min2_int max_two min_two max_three min_three max_four min_four   -- for this text's walks alone
set_option linter.unusedVariables false
set_option linter.unusedSimpArgs false
def tangramlaw21_path.f  : Option (Int × (List (S89)) × (List (List Int))) := some (3, (([(⟨0, 1⟩ : S89), (⟨1, 2⟩ : S89)] : List (S89))), (([(([0] : List Int)), (([1, 2] : List Int)), (([3] : List Int))] : List (List Int))))
set_option maxHeartbeats 8000000 in
set_option maxRecDepth 100000 in
theorem tangramlaw21_path.calls  (r1 : Int) (r2 : List (S89)) (r3 : List (List Int)) (w : World) (h : tangramlaw21_path.f  = some (r1, r2, r3)) :
  Calls Try.prog 34 #[] w fun e w' => ∃ v1_ v2_ : Value, e = .returned (.tuple #[.agg #[.int .i64 r1, v1_], v2_]) ∧ Kd.R k89 89 w' w.heap.size (fun k_ => (w.heap.size ≤ k_)) v1_ r2 ∧ Kd.N (Kd.slice 3 (Kd.int .i64)) 32 w' w.heap.size (fun k_ => (w.heap.size ≤ k_) ∧ some k_ ≠ (v1_ : Value).ownBlock) v2_ r3 ∧ Below w.heap.size w w' := by
 have hu24 := Try.underlying24
 have hu89 := Try.underlying89
 have HB := Aside0.mk (Below.refl w.heap.size w)
 have H : (some (3, (([(⟨0, 1⟩ : S89), (⟨1, 2⟩ : S89)] : List (S89))), (([(([0] : List Int)), (([1, 2] : List Int)), (([3] : List Int))] : List (List Int))))) = some (r1, r2, r3) := h
 clear h
 obtain ⟨y134, hy134⟩ : ∃ y_ : List (S89), y_ = (([(⟨0, 1⟩ : S89), (⟨1, 2⟩ : S89)] : List (S89))) := ⟨_, rfl⟩
 replace H : (some (3, y134, (([(([0] : List Int)), (([1, 2] : List Int)), (([3] : List Int))] : List (List Int))))) = some (r1, r2, r3) := by first | (rw [hy134]; with_reducible exact H) | (have H2_ := (Option.bind_some _ _).symm.trans H; rw [hy134]; with_reducible exact H2_) | (have H2_ := (Option.bind_some _ _).symm.trans H; with_reducible exact H2_) | with_reducible exact H | (rw [hy134]; exact H) | exact H
 have Ny134 := Aside0.mk hy134
 clear hy134
 obtain ⟨y137, hy137⟩ : ∃ y_ : List Int, y_ = (([0] : List Int)) := ⟨_, rfl⟩
 replace H : (some (3, y134, (([y137, (([1, 2] : List Int)), (([3] : List Int))] : List (List Int))))) = some (r1, r2, r3) := by first | (rw [hy137]; with_reducible exact H) | (have H2_ := (Option.bind_some _ _).symm.trans H; rw [hy137]; with_reducible exact H2_) | (have H2_ := (Option.bind_some _ _).symm.trans H; with_reducible exact H2_) | with_reducible exact H | (rw [hy137]; exact H) | exact H
 have Ny137 := Aside0.mk hy137
 clear hy137
 obtain ⟨y140, hy140⟩ : ∃ y_ : List Int, y_ = (([1, 2] : List Int)) := ⟨_, rfl⟩
 replace H : (some (3, y134, (([y137, y140, (([3] : List Int))] : List (List Int))))) = some (r1, r2, r3) := by first | (rw [hy140]; with_reducible exact H) | (have H2_ := (Option.bind_some _ _).symm.trans H; rw [hy140]; with_reducible exact H2_) | (have H2_ := (Option.bind_some _ _).symm.trans H; with_reducible exact H2_) | with_reducible exact H | (rw [hy140]; exact H) | exact H
 have Ny140 := Aside0.mk hy140
 clear hy140
 obtain ⟨y143, hy143⟩ : ∃ y_ : List Int, y_ = (([3] : List Int)) := ⟨_, rfl⟩
 replace H : (some (3, y134, (([y137, y140, y143] : List (List Int))))) = some (r1, r2, r3) := by first | (rw [hy143]; with_reducible exact H) | (have H2_ := (Option.bind_some _ _).symm.trans H; rw [hy143]; with_reducible exact H2_) | (have H2_ := (Option.bind_some _ _).symm.trans H; with_reducible exact H2_) | with_reducible exact H | (rw [hy143]; exact H) | exact H
 have Ny143 := Aside0.mk hy143
 clear hy143
 obtain ⟨y146, hy146⟩ : ∃ y_ : List (List Int), y_ = (([y137, y140, y143] : List (List Int))) := ⟨_, rfl⟩
 replace H : (some (3, y134, y146)) = some (r1, r2, r3) := by first | (rw [hy146]; with_reducible exact H) | (have H2_ := (Option.bind_some _ _).symm.trans H; rw [hy146]; with_reducible exact H2_) | (have H2_ := (Option.bind_some _ _).symm.trans H; with_reducible exact H2_) | with_reducible exact H | (rw [hy146]; exact H) | exact H
 have Ny146 := Aside0.mk hy146
 clear hy146
 simp only [Option.some.injEq, Prod.mk.injEq] at H
 obtain ⟨rfl, rfl, rfl⟩ := H
 go_enter Try.func34, Try.ntmps34
 go_wp2_with (first | ((with_reducible refine gate_dst (N := 0) rfl ?_); refine box_event ?hg (N := 0) ?hd (cs := #[.int .i64 0, .slice none 0 0]) (t := 24) ?hr ?_; (case hd => rfl); (case hg => rfl); (case hr => first | (go_simp; done) | (go_simp; rfl)); intro gb133 hg w1 hbox hb; have n0_ := Aside0.mk (below_step (by repeat (first | (with_reducible first | exact HB.out | apply below_alloc | apply pw_below_drewN | apply below_drew1) | exact HB.out)) hb); have n1_ := Aside0.mk (hbox); have n2_ := Aside0.mk ((by rw [hg]; exact (below_size (by repeat (first | (with_reducible first | exact HB.out | apply below_alloc | apply pw_below_drewN | apply below_drew1) | exact HB.out))) : w.heap.size ≤ gb133)); have n3_ := Aside0.mk ((by rw [hg]; exact (below_size (by repeat (first | (with_reducible first | exact HB.out | apply below_alloc | apply pw_below_drewN | apply below_drew1) | exact HB.out))) : w.heap.size ≤ gb133)); clear HB; have HB := n0_; have BK133 := n1_; have GW133 := n2_; have GE133 := n3_; clear n0_ n1_ n2_ n3_; clear hb hbox hg) | ((with_reducible refine gate_dst (N := 4) rfl ?_); refine Kd.R_lit k89 _ 89 ?hg (N := 4) ?hd (xs := ([(⟨0, 1⟩ : S89), (⟨1, 2⟩ : S89)] : List (S89))) (inner := [.int .i64 0, .int .i64 1, .int .i64 1, .int .i64 2]) (ok := fun _ => True) (okp := fun _ => True) ?hr ?hp (fun _ hk => hk) trivial (Below.refl _ _) (Nat.le_refl _) (by simp) ?_; (case hd => rfl); (case hg => rfl); (case hr => first | (go_simp; done) | (go_simp; rfl)); (case hp => exact (Reps.c2 (show Kd.M k89 _ _ _ (⟨0, 1⟩ : S89) [.int .i64 0, .int .i64 1] from (k89_mkM _ _ _ (⟨0, 1⟩ : S89) )) (Reps.c2 (show Kd.M k89 _ _ _ (⟨1, 2⟩ : S89) [.int .i64 1, .int .i64 2] from (k89_mkM _ _ _ (⟨1, 2⟩ : S89) )) (Reps.none _ _)))); intro v135 w2 ho3 hb hg_ hnew_; clear hg_ hnew_; (first | rw [← Ny134.out] at ho3 | (simp only [Int.reduceToNat] at ho3; rw [← Ny134.out] at ho3)); have n0_ := Aside0.mk (Kd.R_lower (Kd.R_newM (M := fun k_ => (w.heap.size ≤ k_)) ho3 (below_size (by repeat (first | (with_reducible first | exact HB.out | apply below_alloc | apply pw_below_drewN | apply below_drew1 | refine below_set ?_ GE133.out) | exact HB.out))) (fun k_ h_ => h_)) (below_size (by repeat (first | (with_reducible first | exact HB.out | apply below_alloc | apply pw_below_drewN | apply below_drew1 | refine below_set ?_ GE133.out) | exact HB.out)))); have n1_ := Aside0.mk (blk_below (g := gb133) (o := .cells #[.int .i64 0, .slice none 0 0] 24 (0, 0)) (by (with_reducible repeat (first | refine blk_drewN ?_ _ | refine blk_drew ?_ | refine blk_alloc ?_ _)); exact BK133.out) hb); have n2_ := Aside0.mk (below_step (by repeat (first | (with_reducible first | exact HB.out | apply below_alloc | apply pw_below_drewN | apply below_drew1 | refine below_set ?_ GE133.out) | exact HB.out)) hb); clear BK133; clear HB; have HO136 := n0_; have BK133 := n1_; have HB := n2_; clear n0_ n1_ n2_; clear hb ho3; obtain ⟨Ao4, co4, eo4⟩ := Kd.R_slice HO136.out; subst eo4) | ((with_reducible refine gate_dst (N := 6) rfl ?_); refine Kd.R_lit (Kd.int .i64) _ 3 ?hg (N := 6) ?hd (xs := ([0] : List Int)) (inner := [.int .i64 0]) (ok := fun _ => True) (okp := fun _ => True) ?hr ?hp (fun _ hk => hk) trivial (Below.refl _ _) (Nat.le_refl _) (by simp) ?_; (case hd => rfl); (case hg => rfl); (case hr => first | (go_simp; done) | (go_simp; rfl)); (case hp => exact (Reps.one (show Kd.M (Kd.int .i64) _ _ _ 0 [.int .i64 0] from rfl) (Reps.none _ _))); intro v138 w5 ho6 hb hg_ hnew_; clear hg_ hnew_; (first | rw [← Ny137.out] at ho6 | (simp only [Int.reduceToNat] at ho6; rw [← Ny137.out] at ho6)); have n0_ := Aside0.mk (Kd.R_below (by (with_reducible repeat (first | apply Kd.R_alloc | apply Kd.R_drewN | apply Kd.R_drew)); exact HO136.out) hb); have n1_ := Aside0.mk (Kd.R_lower (Kd.R_newM (M := fun k_ => (w.heap.size ≤ k_)) ho6 (below_size (by repeat (first | (with_reducible first | exact HB.out | apply below_alloc | apply pw_below_drewN | apply below_drew1 | refine below_set ?_ GE133.out) | exact HB.out))) (fun k_ h_ => h_)) (below_size (by repeat (first | (with_reducible first | exact HB.out | apply below_alloc | apply pw_below_drewN | apply below_drew1 | refine below_set ?_ GE133.out) | exact HB.out)))); have n2_ := Aside0.mk (blk_below (g := gb133) (o := .cells #[.int .i64 0, .slice none 0 0] 24 (0, 0)) (by (with_reducible repeat (first | refine blk_drewN ?_ _ | refine blk_drew ?_ | refine blk_alloc ?_ _)); exact BK133.out) hb); have n3_ := Aside0.mk (below_step (by repeat (first | (with_reducible first | exact HB.out | apply below_alloc | apply pw_below_drewN | apply below_drew1 | refine below_set ?_ GE133.out) | exact HB.out)) hb); clear HO136; clear BK133; clear HB; have HO136 := n0_; have HO139 := n1_; have BK133 := n2_; have HB := n3_; clear n0_ n1_ n2_ n3_; clear hb ho6) | ((with_reducible refine gate_dst (N := 7) rfl ?_); refine Kd.R_lit (Kd.int .i64) _ 3 ?hg (N := 7) ?hd (xs := ([1, 2] : List Int)) (inner := [.int .i64 1, .int .i64 2]) (ok := fun _ => True) (okp := fun _ => True) ?hr ?hp (fun _ hk => hk) trivial (Below.refl _ _) (Nat.le_refl _) (by simp) ?_; (case hd => rfl); (case hg => rfl); (case hr => first | (go_simp; done) | (go_simp; rfl)); (case hp => exact (Reps.one (show Kd.M (Kd.int .i64) _ _ _ 1 [.int .i64 1] from rfl) (Reps.one (show Kd.M (Kd.int .i64) _ _ _ 2 [.int .i64 2] from rfl) (Reps.none _ _)))); intro v141 w7 ho8 hb hg_ hnew_; clear hg_ hnew_; (first | rw [← Ny140.out] at ho8 | (simp only [Int.reduceToNat] at ho8; rw [← Ny140.out] at ho8)); have n0_ := Aside0.mk (Kd.R_below (by (with_reducible repeat (first | apply Kd.R_alloc | apply Kd.R_drewN | apply Kd.R_drew)); exact HO136.out) hb); have n1_ := Aside0.mk (Kd.R_elder' (by (with_reducible repeat (first | apply Kd.R_alloc | apply Kd.R_drewN | apply Kd.R_drew)); exact HO139.out) (Kd.R_base ho8) hb); have n2_ := Aside0.mk (Kd.R_lower (Kd.R_new' (Kd.R_newM (M := fun k_ => (w.heap.size ≤ k_)) ho8 (below_size (by repeat (first | (with_reducible first | exact HB.out | apply below_alloc | apply pw_below_drewN | apply below_drew1 | refine below_set ?_ GE133.out) | exact HB.out))) (fun k_ h_ => h_)) (Kd.R_lt (by (with_reducible repeat (first | apply Kd.R_alloc | apply Kd.R_drewN | apply Kd.R_drew)); exact HO139.out))) (below_size (by repeat (first | (with_reducible first | exact HB.out | apply below_alloc | apply pw_below_drewN | apply below_drew1 | refine below_set ?_ GE133.out) | exact HB.out)))); have n3_ := Aside0.mk (blk_below (g := gb133) (o := .cells #[.int .i64 0, .slice none 0 0] 24 (0, 0)) (by (with_reducible repeat (first | refine blk_drewN ?_ _ | refine blk_drew ?_ | refine blk_alloc ?_ _)); exact BK133.out) hb); have n4_ := Aside0.mk (below_step (by repeat (first | (with_reducible first | exact HB.out | apply below_alloc | apply pw_below_drewN | apply below_drew1 | refine below_set ?_ GE133.out) | exact HB.out)) hb); clear HO136; clear HO139; clear BK133; clear HB; have HO136 := n0_; have HO139 := n1_; have HO142 := n2_; have BK133 := n3_; have HB := n4_; clear n0_ n1_ n2_ n3_ n4_; clear hb ho8) | ((with_reducible refine gate_dst (N := 8) rfl ?_); refine Kd.R_lit (Kd.int .i64) _ 3 ?hg (N := 8) ?hd (xs := ([3] : List Int)) (inner := [.int .i64 3]) (ok := fun _ => True) (okp := fun _ => True) ?hr ?hp (fun _ hk => hk) trivial (Below.refl _ _) (Nat.le_refl _) (by simp) ?_; (case hd => rfl); (case hg => rfl); (case hr => first | (go_simp; done) | (go_simp; rfl)); (case hp => exact (Reps.one (show Kd.M (Kd.int .i64) _ _ _ 3 [.int .i64 3] from rfl) (Reps.none _ _))); intro v144 w9 ho10 hb hg_ hnew_; clear hg_ hnew_; (first | rw [← Ny143.out] at ho10 | (simp only [Int.reduceToNat] at ho10; rw [← Ny143.out] at ho10)); have n0_ := Aside0.mk (Kd.R_below (by (with_reducible repeat (first | apply Kd.R_alloc | apply Kd.R_drewN | apply Kd.R_drew)); exact HO136.out) hb); have n1_ := Aside0.mk (Kd.R_elder' (by (with_reducible repeat (first | apply Kd.R_alloc | apply Kd.R_drewN | apply Kd.R_drew)); exact HO139.out) (Kd.R_base ho10) hb); have n2_ := Aside0.mk (Kd.R_elder' (by (with_reducible repeat (first | apply Kd.R_alloc | apply Kd.R_drewN | apply Kd.R_drew)); exact HO142.out) (Kd.R_base ho10) hb); have n3_ := Aside0.mk (Kd.R_lower (Kd.R_new' (Kd.R_new' (Kd.R_newM (M := fun k_ => (w.heap.size ≤ k_)) ho10 (below_size (by repeat (first | (with_reducible first | exact HB.out | apply below_alloc | apply pw_below_drewN | apply below_drew1 | refine below_set ?_ GE133.out) | exact HB.out))) (fun k_ h_ => h_)) (Kd.R_lt (by (with_reducible repeat (first | apply Kd.R_alloc | apply Kd.R_drewN | apply Kd.R_drew)); exact HO139.out))) (Kd.R_lt (by (with_reducible repeat (first | apply Kd.R_alloc | apply Kd.R_drewN | apply Kd.R_drew)); exact HO142.out))) (below_size (by repeat (first | (with_reducible first | exact HB.out | apply below_alloc | apply pw_below_drewN | apply below_drew1 | refine below_set ?_ GE133.out) | exact HB.out)))); have n4_ := Aside0.mk (blk_below (g := gb133) (o := .cells #[.int .i64 0, .slice none 0 0] 24 (0, 0)) (by (with_reducible repeat (first | refine blk_drewN ?_ _ | refine blk_drew ?_ | refine blk_alloc ?_ _)); exact BK133.out) hb); have n5_ := Aside0.mk (below_step (by repeat (first | (with_reducible first | exact HB.out | apply below_alloc | apply pw_below_drewN | apply below_drew1 | refine below_set ?_ GE133.out) | exact HB.out)) hb); clear HO136; clear HO139; clear HO142; clear BK133; clear HB; have HO136 := n0_; have HO139 := n1_; have HO142 := n2_; have HO145 := n3_; have BK133 := n4_; have HB := n5_; clear n0_ n1_ n2_ n3_ n4_ n5_; clear hb ho10; obtain ⟨Ao11, co11, eo11⟩ := Kd.R_slice HO139.out; subst eo11; obtain ⟨Ao12, co12, eo12⟩ := Kd.R_slice HO142.out; subst eo12; obtain ⟨Ao13, co13, eo13⟩ := Kd.R_slice HO145.out; subst eo13) | ((with_reducible refine gate_dst (N := 9) rfl ?_); refine Kd.N_lit (Kd.slice 3 (Kd.int .i64)) _ 32 ?hg (N' := 9) ?hd (xs := ([y137, y140, y143] : List (List Int))) (inner := [.slice Ao11 y137.length co11, .slice Ao12 y140.length co12, .slice Ao13 y143.length co13]) (ok := (fun k_ => (w.heap.size ≤ k_) ∧ some k_ ≠ (.slice Ao4 y134.length co4 : Value).ownBlock ∧ k_ ≠ gb133)) (okp := (fun k_ => (w.heap.size ≤ k_) ∧ some k_ ≠ (.slice Ao4 y134.length co4 : Value).ownBlock ∧ k_ ≠ gb133)) ?hr ?hp (fun _ hk => hk) ((show ∀ k_, w9.heap.size ≤ k_ → (fun k_ => (w.heap.size ≤ k_) ∧ some k_ ≠ (.slice Ao4 y134.length co4 : Value).ownBlock ∧ k_ ≠ gb133) k_ from fun k_ hk => ⟨(Nat.le_trans (below_size (by repeat (first | (with_reducible first | exact HB.out | apply below_alloc | apply pw_below_drewN | apply below_drew1 | refine below_set ?_ GE133.out) | exact HB.out))) hk), Kd.fresh' (Kd.R_lt (by (with_reducible repeat (first | apply Kd.R_alloc | apply Kd.R_drewN | apply Kd.R_drew)); exact HO136.out)) k_ hk, Kd.freshB (g := gb133) (o := .cells #[.int .i64 0, .slice none 0 0] 24 (0, 0)) (by (with_reducible repeat (first | refine blk_drewN ?_ _ | refine blk_drew ?_ | refine blk_alloc ?_ _)); exact BK133.out) k_ hk⟩) _ (Nat.le_refl _)) (Below.refl _ _) (Nat.le_refl _) (by simp) ?_; (case hd => rfl); (case hg => rfl); (case hr => first | (go_simp; done) | (go_simp; rfl)); (case hp => exact (Reps.one (show Kd.FK (Kd.slice 3 (Kd.int .i64)) _ _ y137 [.slice Ao11 y137.length co11] from (Kd.FK_slice_mk (Kd.R_reads' (Kd.R_mono (ok' := (fun k_ => (w.heap.size ≤ k_) ∧ some k_ ≠ (.slice Ao4 y134.length co4 : Value).ownBlock ∧ k_ ≠ gb133)) (Kd.R_types (Kd.R_apart' (HO139.out) (Kd.R_typed HO136.out) (by decide)) BK133.out (by decide)) (fun k_ hk => ⟨hk.1.1.1.1.1, ⟨hk.1.2, hk.2⟩⟩))).2.1 (Kd.R_F (Kd.R_mono (ok' := (fun k_ => (w.heap.size ≤ k_) ∧ some k_ ≠ (.slice Ao4 y134.length co4 : Value).ownBlock ∧ k_ ≠ gb133)) (Kd.R_types (Kd.R_apart' (HO139.out) (Kd.R_typed HO136.out) (by decide)) BK133.out (by decide)) (fun k_ hk => ⟨hk.1.1.1.1.1, ⟨hk.1.2, hk.2⟩⟩))))) (Reps.one (show Kd.FK (Kd.slice 3 (Kd.int .i64)) _ _ y140 [.slice Ao12 y140.length co12] from (Kd.FK_slice_mk (Kd.R_reads' (Kd.R_mono (ok' := (fun k_ => (w.heap.size ≤ k_) ∧ some k_ ≠ (.slice Ao4 y134.length co4 : Value).ownBlock ∧ k_ ≠ gb133)) (Kd.R_types (Kd.R_apart' (HO142.out) (Kd.R_typed HO136.out) (by decide)) BK133.out (by decide)) (fun k_ hk => ⟨hk.1.1.1.1.1, ⟨hk.1.2, hk.2⟩⟩))).2.1 (Kd.R_F (Kd.R_mono (ok' := (fun k_ => (w.heap.size ≤ k_) ∧ some k_ ≠ (.slice Ao4 y134.length co4 : Value).ownBlock ∧ k_ ≠ gb133)) (Kd.R_types (Kd.R_apart' (HO142.out) (Kd.R_typed HO136.out) (by decide)) BK133.out (by decide)) (fun k_ hk => ⟨hk.1.1.1.1.1, ⟨hk.1.2, hk.2⟩⟩))))) (Reps.one (show Kd.FK (Kd.slice 3 (Kd.int .i64)) _ _ y143 [.slice Ao13 y143.length co13] from (Kd.FK_slice_mk (Kd.R_reads' (Kd.R_mono (ok' := (fun k_ => (w.heap.size ≤ k_) ∧ some k_ ≠ (.slice Ao4 y134.length co4 : Value).ownBlock ∧ k_ ≠ gb133)) (Kd.R_types (Kd.R_apart' (HO145.out) (Kd.R_typed HO136.out) (by decide)) BK133.out (by decide)) (fun k_ hk => ⟨hk.1.1.1.1.1, ⟨hk.1.2, hk.2⟩⟩))).2.1 (Kd.R_F (Kd.R_mono (ok' := (fun k_ => (w.heap.size ≤ k_) ∧ some k_ ≠ (.slice Ao4 y134.length co4 : Value).ownBlock ∧ k_ ≠ gb133)) (Kd.R_types (Kd.R_apart' (HO145.out) (Kd.R_typed HO136.out) (by decide)) BK133.out (by decide)) (fun k_ hk => ⟨hk.1.1.1.1.1, ⟨hk.1.2, hk.2⟩⟩))))) (Reps.none _ _))))); intro v147 w14 ho15 hb hg_ hnew_; clear hg_ hnew_; (first | rw [← Ny146.out] at ho15 | (simp only [Int.reduceToNat] at ho15; rw [← Ny146.out] at ho15)); have n0_ := Aside0.mk (Kd.R_below (by (with_reducible repeat (first | apply Kd.R_alloc | apply Kd.R_drewN | apply Kd.R_drew)); exact HO136.out) hb); have n1_ := Aside0.mk (Kd.N_lower ho15 (below_size (by repeat (first | (with_reducible first | exact HB.out | apply below_alloc | apply pw_below_drewN | apply below_drew1 | refine below_set ?_ GE133.out) | exact HB.out)))); have n2_ := Aside0.mk (blk_below (g := gb133) (o := .cells #[.int .i64 0, .slice none 0 0] 24 (0, 0)) (by (with_reducible repeat (first | refine blk_drewN ?_ _ | refine blk_drew ?_ | refine blk_alloc ?_ _)); exact BK133.out) hb); have n3_ := Aside0.mk (below_step (by repeat (first | (with_reducible first | exact HB.out | apply below_alloc | apply pw_below_drewN | apply below_drew1 | refine below_set ?_ GE133.out) | exact HB.out)) hb); clear HO136; clear BK133; clear HB; clear HO139; clear HO142; clear HO145; have HO136 := n0_; have HO148 := n1_; have BK133 := n2_; have HB := n3_; clear n0_ n1_ n2_ n3_; clear hb ho15; have hcz16_0 : w14.cell? ⟨gb133, 0, none⟩ = some (.int .i64 0) := (blk_cell BK133.out 0).trans rfl; have hcz16_1 : w14.cell? ⟨gb133, 1, none⟩ = some (.slice none 0 0) := (blk_cell BK133.out 1).trans rfl; have hfz16_0 := blk_frozen BK133.out 0; have hfz16_1 := blk_frozen BK133.out 1))
 refine bodyPost_ret (results_ct rfl _ _ gb133 24 #[.int .i64 3, .slice Ao4 y134.length co4] (0, 0) _ rfl (by (with_reducible repeat (first | refine blk_drewN ?_ _ | refine blk_drew ?_ | refine blk_alloc ?_ _)); refine blk_put (cs := #[.int .i64 3, .slice none 0 0]) ?_ 1 _ rfl; (with_reducible repeat (first | refine blk_drewN ?_ _ | refine blk_drew ?_ | refine blk_alloc ?_ _)); refine blk_put (cs := #[.int .i64 0, .slice none 0 0]) ?_ 0 _ rfl; (with_reducible repeat (first | refine blk_drewN ?_ _ | refine blk_drew ?_ | refine blk_alloc ?_ _)); exact BK133.out) Try.underlying24 rfl (by kernel_rfl)) rfl ?_
 exact ⟨_, _, by first | rfl | (simp [errW_none, errW_some] <;> rfl) | (simp [*, errW_none, errW_some] <;> rfl), by (with_reducible repeat (first | apply Kd.R_alloc | apply Kd.R_drewN | apply Kd.R_drew)); exact Kd.R_mono (Kd.R_far (p := ⟨gb133, 1, none⟩) (Kd.R_far (p := ⟨gb133, 0, none⟩) (Kd.R_types HO136.out BK133.out (by decide)) (fun _ hk => hk.2) (.int .i64 3)) (fun _ hk => hk.2) (.slice Ao4 y134.length co4)) (fun _ hk => hk.1.1), by (with_reducible repeat (first | apply Kd.N_alloc | apply Kd.N_drewN | apply Kd.N_drew)); exact Kd.N_mono (Kd.N_far (p := ⟨gb133, 1, none⟩) (Kd.N_far (p := ⟨gb133, 0, none⟩) (Kd.N_mono HO148.out (fun k_ hk => (⟨hk, hk.2.2⟩ : _ ∧ k_ ≠ gb133))) (fun _ hk => hk.2) (.int .i64 3)) (fun _ hk => hk.2) (.slice Ao4 y134.length co4)) (fun _ hk => ⟨hk.1.1, hk.1.2.1⟩), by repeat (first | (with_reducible first | exact HB.out | apply below_alloc | apply pw_below_drewN | apply below_drew1 | refine below_set ?_ GE133.out) | exact HB.out)⟩
end Go.Proofs.Yteeihjpnhjnknaa.GAll
namespace Go.Proofs.Yteeihjpnhjnknaa.GAll
open Go.RowKit Go.Proofs.YteeihjpnhjnknaaW.PrintWords Go.Proofs.YteeihjpnhjnknaaW.PrintLast Go.Proofs.YteeihjpnhjnknaaW.PrintMore
attribute [local go_sem] max2_int min2_int max_two min_two max_three min_three max_four min_four   -- for this text's walks alone
set_option linter.unusedVariables false
set_option linter.unusedSimpArgs false
def tangramlaw21_wakes.r : List (List Int) := [[0], [1, 2], [3]]
def tangramlaw21_wakes.es : List S89 := [⟨0, 1⟩, ⟨1, 2⟩]
set_option maxRecDepth 100000 in
theorem tangramlaw21_wakes.c0 : tangramlaw21_path.f = some (3, tangramlaw21_wakes.es, tangramlaw21_wakes.r) := by kernel_rfl
set_option maxRecDepth 100000 in
theorem tangramlaw21_wakes.c1 : canon_Code.f 40 3 tangramlaw21_wakes.es tangramlaw21_wakes.r = some ([1, 1, 2, 0, 2, 1, 1], 0) := by kernel_rfl
set_option maxRecDepth 100000 in
theorem tangramlaw21_wakes.c2 : canon_Rooted.f 40 3 tangramlaw21_wakes.es tangramlaw21_wakes.r 1 = some ([2, 1, 2, 1, 0, 1, 0], 0) := by kernel_rfl
set_option maxRecDepth 100000 in
theorem tangramlaw21_wakes.c3 : canon_Turns.f 40 3 tangramlaw21_wakes.es tangramlaw21_wakes.r = some (2, 0) := by kernel_rfl
set_option maxRecDepth 100000 in
theorem tangramlaw21_wakes.c4 : canon_Match.f 40 3 tangramlaw21_wakes.es tangramlaw21_wakes.r 3 tangramlaw21_wakes.es tangramlaw21_wakes.r = some ([0, 1, 2], true, 0) := by kernel_rfl
set_option maxRecDepth 100000 in
theorem tangramlaw21_wakes.c5 : canon_Code.f 40 1 [] [[]] = some ([], 210) := by kernel_rfl
theorem tangramlaw21_wakes.s1 : tangramref03_SameInts.f 40 [1, 1, 2, 0, 2, 1, 1] [1, 1, 2, 0, 2, 1, 1] = some true := by kernel_rfl
theorem tangramlaw21_wakes.s2 : tangramref03_SameInts.f 40 [2, 1, 2, 1, 0, 1, 0] [2, 1, 2, 1, 0, 1, 0] = some true := by kernel_rfl
theorem tangramlaw21_wakes.s3 : tangramref03_SameInts.f 40 [0, 1, 2] [0, 1, 2] = some true := by kernel_rfl
def tangramlaw21_wakes.f : Option Bool := some true
set_option maxHeartbeats 4000000 in
set_option maxRecDepth 100000 in
theorem tangramlaw21_wakes.calls (r : Bool) (w : World) (h : tangramlaw21_wakes.f = some r) :
  Calls Try.prog 11 #[] w fun e w' => e = .returned (.bool r) ∧ Below w.heap.size w w' := by
 obtain rfl : true = r := by simpa [tangramlaw21_wakes.f] using h
 clear h
 go_enter Try.func11, Try.ntmps11
 go_wp2_with fail
 refine (tangramlaw21_path.calls _ _ _ w tangramlaw21_wakes.c0).mono ?_
 rintro e w1 ⟨v1, v2, rfl, hR, hN, hb⟩
 have HB1 := Aside0.mk hb
 obtain ⟨A, c, rfl, hc, hC⟩ := Kd.R_reads hR
 obtain ⟨A1, c1, rfl, hc1, hC1⟩ := Kd.N_reads hN
 have HC1 := Aside0.mk hC
 have HL := Aside0.mk hc
 have HD1 := Aside0.mk hC1
 have HL1 := Aside0.mk hc1
 clear hb hR hN hC hC1 hc hc1
 have HX1 : Aside0 ((w1.alloc (.cells #[.int .i64 3, .slice A tangramlaw21_wakes.es.length c] 24 (0, 0))).heap[w1.heap.size]? = some (.cells #[.int .i64 3, .slice A tangramlaw21_wakes.es.length c] 24 (0, 0))) := ⟨Mem.heap_last w1 _⟩
 have hb : Below w1.heap.size w1 (w1.alloc (.cells #[.int .i64 3, .slice A tangramlaw21_wakes.es.length c] 24 (0, 0))) := (Below.refl _ _).alloc (Nat.le_refl _) _
 have HB2 := Aside0.mk (HB1.out.trans (hb.mono HB1.out.size))
 have HC2 := Aside0.mk (Kd.C_below HC1.out hb)
 have HD2 := Aside0.mk (Kd.C_below HD1.out hb)
 have x0 : (w1.alloc (.cells #[.int .i64 3, .slice A tangramlaw21_wakes.es.length c] 24 (0, 0))).cell? ⟨w1.heap.size, 0, none⟩ = some (.int .i64 3) := Mem.heap_cell HX1.out rfl
 have x1 : (w1.alloc (.cells #[.int .i64 3, .slice A tangramlaw21_wakes.es.length c] 24 (0, 0))).cell? ⟨w1.heap.size, 1, none⟩ = some (.slice A tangramlaw21_wakes.es.length c) := Mem.heap_cell HX1.out rfl
 clear hb HB1 HC1 HD1
 go_wp2_with fail
 generalize w1.alloc (.cells #[.int .i64 3, .slice A tangramlaw21_wakes.es.length c] 24 (0, 0)) = w2 at HX1 HB2 HC2 HD2 x0 x1 ⊢
 obtain ⟨b, hbb⟩ : ∃ b, b = w1.heap.size := ⟨_, rfl⟩
 rw [← hbb] at HX1 x0 x1 ⊢
 clear hbb
 refine (canon_Code.calls 40 3 A c tangramlaw21_wakes.es A1 c1 tangramlaw21_wakes.r _ _ w2 HC2.out HL.out HD2.out HL1.out tangramlaw21_wakes.c1).mono ?_
 rintro e w3 ⟨v, rfl, hR, hb⟩
 have HB3 := Aside0.mk (HB2.out.trans (hb.mono HB2.out.size))
 have HX3 := Aside0.mk ((hb.block _ (Mem.lt_of HX1.out)).trans HX1.out)
 have HC3 := Aside0.mk (Kd.C_below HC2.out hb)
 have HD3 := Aside0.mk (Kd.C_below HD2.out hb)
 clear HB2 HX1 HC2 HD2
 first | clear x0 x1 | skip
 have x0 : w3.cell? ⟨b, 0, none⟩ = some (.int .i64 3) := Mem.heap_cell HX3.out rfl
 have x1 : w3.cell? ⟨b, 1, none⟩ = some (.slice A tangramlaw21_wakes.es.length c) := Mem.heap_cell HX3.out rfl
 clear hb
 obtain ⟨A3, c3, e3, hc, hC⟩ := Kd.R_reads hR
 have HR3 := Aside0.mk hC
 have HL3 := Aside0.mk hc
 clear hR hC hc
 subst e3
 go_wp2_with fail
 refine (canon_Rooted.calls 40 3 A c tangramlaw21_wakes.es A1 c1 tangramlaw21_wakes.r 1 _ _ w3 HC3.out HL.out HD3.out HL1.out tangramlaw21_wakes.c2).mono ?_
 rintro e w4 ⟨v, rfl, hR, hb⟩
 have HB4 := Aside0.mk (HB3.out.trans (hb.mono HB3.out.size))
 have HX4 := Aside0.mk ((hb.block _ (Mem.lt_of HX3.out)).trans HX3.out)
 have HC4 := Aside0.mk (Kd.C_below HC3.out hb)
 have HD4 := Aside0.mk (Kd.C_below HD3.out hb)
 clear HB3 HX3 HC3 HD3
 first | clear x0 x1 | skip
 have x0 : w4.cell? ⟨b, 0, none⟩ = some (.int .i64 3) := Mem.heap_cell HX4.out rfl
 have x1 : w4.cell? ⟨b, 1, none⟩ = some (.slice A tangramlaw21_wakes.es.length c) := Mem.heap_cell HX4.out rfl
 have HR3a := Aside0.mk (Kd.C_below HR3.out hb)
 clear HR3
 clear hb
 obtain ⟨A4, c4, e4, hc, hC⟩ := Kd.R_reads hR
 have HR4 := Aside0.mk hC
 have HL4 := Aside0.mk hc
 clear hR hC hc
 subst e4
 go_wp2_with fail
 refine (canon_Turns.calls 40 3 A c tangramlaw21_wakes.es A1 c1 tangramlaw21_wakes.r _ _ w4 HC4.out HL.out HD4.out HL1.out tangramlaw21_wakes.c3).mono ?_
 rintro e w5 ⟨rfl, hb⟩
 have HB5 := Aside0.mk (HB4.out.trans (hb.mono HB4.out.size))
 have HX5 := Aside0.mk ((hb.block _ (Mem.lt_of HX4.out)).trans HX4.out)
 have HC5 := Aside0.mk (Kd.C_below HC4.out hb)
 have HD5 := Aside0.mk (Kd.C_below HD4.out hb)
 clear HB4 HX4 HC4 HD4
 first | clear x0 x1 | skip
 have x0 : w5.cell? ⟨b, 0, none⟩ = some (.int .i64 3) := Mem.heap_cell HX5.out rfl
 have x1 : w5.cell? ⟨b, 1, none⟩ = some (.slice A tangramlaw21_wakes.es.length c) := Mem.heap_cell HX5.out rfl
 have HR3b := Aside0.mk (Kd.C_below HR3a.out hb)
 clear HR3a
 have HR4a := Aside0.mk (Kd.C_below HR4.out hb)
 clear HR4
 clear hb
 go_wp2_with fail
 refine (canon_Match.calls 40 3 A c tangramlaw21_wakes.es A1 c1 tangramlaw21_wakes.r 3 A c tangramlaw21_wakes.es A1 c1 tangramlaw21_wakes.r _ _ _ w5 HC5.out HL.out HD5.out HL1.out HC5.out HL.out HD5.out HL1.out tangramlaw21_wakes.c4).mono ?_
 rintro e w6 ⟨v, rfl, hR, hb⟩
 have HB6 := Aside0.mk (HB5.out.trans (hb.mono HB5.out.size))
 have HX6 := Aside0.mk ((hb.block _ (Mem.lt_of HX5.out)).trans HX5.out)
 have HC6 := Aside0.mk (Kd.C_below HC5.out hb)
 have HD6 := Aside0.mk (Kd.C_below HD5.out hb)
 clear HB5 HX5 HC5 HD5
 first | clear x0 x1 | skip
 have x0 : w6.cell? ⟨b, 0, none⟩ = some (.int .i64 3) := Mem.heap_cell HX6.out rfl
 have x1 : w6.cell? ⟨b, 1, none⟩ = some (.slice A tangramlaw21_wakes.es.length c) := Mem.heap_cell HX6.out rfl
 have HR3c := Aside0.mk (Kd.C_below HR3b.out hb)
 clear HR3b
 have HR4b := Aside0.mk (Kd.C_below HR4a.out hb)
 clear HR4a
 clear hb x0 x1
 obtain ⟨A6, c6, e6, hc, hC⟩ := Kd.R_reads hR
 have HR6 := Aside0.mk hC
 have HL6 := Aside0.mk hc
 clear hR hC hc
 subst e6
 have HQ7 : Aside0 (Kd.C Mem.KR ((Mem.lits w6 [[]]).alloc (.cells (Mem.outer w6.heap.size [[]]).toArray 32 (0, 0))) (some ⟨w6.heap.size + 1, 0, none⟩) 1 [[]]) := ⟨Mem.lits_reads w6 [[]] (by decide) (by decide)⟩
 have hb := Mem.lits_all w6 [[]]
 have HB7 := Aside0.mk (HB6.out.trans (hb.mono HB6.out.size))
 have HR3d := Aside0.mk (Kd.C_below HR3c.out hb)
 clear HR3c
 have HR4c := Aside0.mk (Kd.C_below HR4b.out hb)
 clear HR4b
 have HR6a := Aside0.mk (Kd.C_below HR6.out hb)
 clear HR6
 clear hb HB6 HX6 HC6 HD6
 go_wp2_with fail
 show Calls _ _ _ ((Mem.lits w6 [[]]).alloc (.cells (Mem.outer w6.heap.size [[]]).toArray 32 (0, 0))) _
 generalize (Mem.lits w6 [[]]).alloc (.cells (Mem.outer w6.heap.size [[]]).toArray 32 (0, 0)) = w7 at HQ7 HB7 HR3d HR4c HR6a ⊢
 refine (canon_Code.calls 40 1 none 0 [] (some ⟨w6.heap.size + 1, 0, none⟩) 1 [[]] _ _ w7 (Kd.C_nil _ _) (by decide) HQ7.out (by decide) tangramlaw21_wakes.c5).mono ?_
 rintro e w8 ⟨v, rfl, hR, hb⟩
 have HB8 := Aside0.mk (HB7.out.trans (hb.mono HB7.out.size))
 have HR3e := Aside0.mk (Kd.C_below HR3d.out hb)
 clear HR3d
 have HR4d := Aside0.mk (Kd.C_below HR4c.out hb)
 clear HR4c
 have HR6b := Aside0.mk (Kd.C_below HR6a.out hb)
 clear HR6a
 clear hb hR HQ7 HB7
 have HIX : Aside0 (Mem.IRow (w8.alloc (.cells #[.int .i64 1, .int .i64 1, .int .i64 2, .int .i64 0, .int .i64 2, .int .i64 1, .int .i64 1] 3 (0, 0))) w8.heap.size [1, 1, 2, 0, 2, 1, 1]) := ⟨Mem.heap_last w8 _⟩
 have hb := (Below.refl w8.heap.size w8).alloc (Nat.le_refl _) (.cells #[.int .i64 1, .int .i64 1, .int .i64 2, .int .i64 0, .int .i64 2, .int .i64 1, .int .i64 1] 3 (0, 0))
 have HBx := Aside0.mk (HB8.out.trans (hb.mono HB8.out.size))
 have HR3f := Aside0.mk (Kd.C_below HR3e.out hb)
 clear HR3e
 have HR4e := Aside0.mk (Kd.C_below HR4d.out hb)
 clear HR4d
 have HR6c := Aside0.mk (Kd.C_below HR6b.out hb)
 clear HR6b
 clear hb HB8
 go_wp2_with fail
 generalize w8.alloc (.cells #[.int .i64 1, .int .i64 1, .int .i64 2, .int .i64 0, .int .i64 2, .int .i64 1, .int .i64 1] 3 (0, 0)) = wx at HIX HBx HR3f HR4e HR6c ⊢
 refine (tangramref03_SameInts.calls 40 A3 c3 [1, 1, 2, 0, 2, 1, 1] (some ⟨w8.heap.size, 0, none⟩) 7 [1, 1, 2, 0, 2, 1, 1] true wx HR3f.out HL3.out (Mem.row_reads HIX.out (by decide)) (by decide) tangramlaw21_wakes.s1).mono ?_
 rintro e w9 ⟨rfl, hd⟩
 have hb := hd.below
 have HB9 := Aside0.mk (HBx.out.trans (hb.mono HBx.out.size))
 have HR4f := Aside0.mk (Kd.C_below HR4e.out hb)
 clear HR4e
 have HR6d := Aside0.mk (Kd.C_below HR6c.out hb)
 clear HR6c
 clear hb hd HIX HBx HR3f
 have HIX : Aside0 (Mem.IRow (w9.alloc (.cells #[.int .i64 2, .int .i64 1, .int .i64 2, .int .i64 1, .int .i64 0, .int .i64 1, .int .i64 0] 3 (0, 0))) w9.heap.size [2, 1, 2, 1, 0, 1, 0]) := ⟨Mem.heap_last w9 _⟩
 have hb := (Below.refl w9.heap.size w9).alloc (Nat.le_refl _) (.cells #[.int .i64 2, .int .i64 1, .int .i64 2, .int .i64 1, .int .i64 0, .int .i64 1, .int .i64 0] 3 (0, 0))
 have HBx := Aside0.mk (HB9.out.trans (hb.mono HB9.out.size))
 have HR4g := Aside0.mk (Kd.C_below HR4f.out hb)
 clear HR4f
 have HR6e := Aside0.mk (Kd.C_below HR6d.out hb)
 clear HR6d
 clear hb HB9
 go_wp2_with fail
 generalize w9.alloc (.cells #[.int .i64 2, .int .i64 1, .int .i64 2, .int .i64 1, .int .i64 0, .int .i64 1, .int .i64 0] 3 (0, 0)) = wx at HIX HBx HR4g HR6e ⊢
 refine (tangramref03_SameInts.calls 40 A4 c4 [2, 1, 2, 1, 0, 1, 0] (some ⟨w9.heap.size, 0, none⟩) 7 [2, 1, 2, 1, 0, 1, 0] true wx HR4g.out HL4.out (Mem.row_reads HIX.out (by decide)) (by decide) tangramlaw21_wakes.s2).mono ?_
 rintro e w10 ⟨rfl, hd⟩
 have hb := hd.below
 have HB10 := Aside0.mk (HBx.out.trans (hb.mono HBx.out.size))
 have HR6f := Aside0.mk (Kd.C_below HR6e.out hb)
 clear HR6e
 clear hb hd HIX HBx HR4g
 have HIX : Aside0 (Mem.IRow (w10.alloc (.cells #[.int .i64 0, .int .i64 1, .int .i64 2] 3 (0, 0))) w10.heap.size [0, 1, 2]) := ⟨Mem.heap_last w10 _⟩
 have hb := (Below.refl w10.heap.size w10).alloc (Nat.le_refl _) (.cells #[.int .i64 0, .int .i64 1, .int .i64 2] 3 (0, 0))
 have HBx := Aside0.mk (HB10.out.trans (hb.mono HB10.out.size))
 have HR6g := Aside0.mk (Kd.C_below HR6f.out hb)
 clear HR6f
 clear hb HB10
 go_wp2_with fail
 generalize w10.alloc (.cells #[.int .i64 0, .int .i64 1, .int .i64 2] 3 (0, 0)) = wx at HIX HBx HR6g ⊢
 refine (tangramref03_SameInts.calls 40 A6 c6 [0, 1, 2] (some ⟨w10.heap.size, 0, none⟩) 3 [0, 1, 2] true wx HR6g.out HL6.out (Mem.row_reads HIX.out (by decide)) (by decide) tangramlaw21_wakes.s3).mono ?_
 rintro e w11 ⟨rfl, hd⟩
 have hb := hd.below
 have HB11 := Aside0.mk (HBx.out.trans (hb.mono HBx.out.size))
 clear hb hd HIX HBx HR6g
 go_wp2_with fail
 go_ret
 exact ⟨rfl, HB11.out⟩
end Go.Proofs.Yteeihjpnhjnknaa.GAll
namespace Go.Proofs.Yteeihjpnhjnknaa.Rot
open Go.RowKit Go.Proofs.YteeihjpnhjnknaaW.PrintWords Go.Proofs.YteeihjpnhjnknaaW.PrintLast Go.Proofs.YteeihjpnhjnknaaW.PrintMore Go.Proofs.Yteeihjpnhjnknaa.GAll Go.Proofs.Yteeihjpnhjnknaa.Mem Go.Proofs.Yteeihjpnhjnknaa.Seen
set_option linter.unusedVariables false
set_option linter.unusedSimpArgs false
theorem one_ev {n : Int} {l : List Ed} {r : List (List Int)} {a : Int} {b c : List Int} {e f : Int} (h : Ev (fun k => canon_look.f k n l r) (a, b, c, e, f)) : Ev (fun k => canon_one.f k n l r) (a, b, c, if e = 0 then f else e) := by
 unfold canon_one.f
 exact Ev.bind h (Ev.now _)
section
variable {N : Nat} {l : List Ed} {r : List (List Int)}
end
end Go.Proofs.Yteeihjpnhjnknaa.Rot
namespace Go.Proofs.Yteeihjpnhjnknaa.Rot
open Go.RowKit Go.Proofs.YteeihjpnhjnknaaW.PrintWords Go.Proofs.YteeihjpnhjnknaaW.PrintLast Go.Proofs.YteeihjpnhjnknaaW.PrintMore Go.Proofs.Yteeihjpnhjnknaa.GAll Go.Proofs.Yteeihjpnhjnknaa.Mem Go.Proofs.Yteeihjpnhjnknaa.Seen Go.Proofs.Yteeihjpnhjnknaa.Mk
set_option linter.unusedVariables false
set_option linter.unusedSimpArgs false
section
variable {n : Nat} {l : List Ed} {r : List (List Int)}
theorem small_map (hm : IsMap n l r) : Small r := by
 obtain ⟨h1, h2, h3⟩ := hm.rows
 exact ⟨by omega, fun row hr => by have := (h3 row hr).1; omega⟩
theorem one_map (hm : IsMap n l r) (hp : parts n l = 1) (h0 : 0 < l.length) : Ev (fun k => canon_one.f k (n : Int) l r) ((n : Int), nxOf l r, toOf l, 0) := by
 obtain ⟨res, c1, _, c3, c4, _⟩ := both_check (n : Int) l r (small_map hm)
 have c0 := c4.2 ⟨n, rfl, hm.good, hm.rot⟩
 rw [c3 c0] at c1
 obtain ⟨o, o1, _⟩ := of_ev hm.good
 have hfit : (nxOf l r).length = 2 * l.length ∧ l.length ≤ 4194304 ∧ (0 : Int) = 0 := ⟨hm.len, hm.good.2.2.1, rfl⟩
 have hres : canon_look.told (n : Int) l (nxOf l r) (o, (parts n l : Int), 0) = some ((n : Int), nxOf l r, toOf l, 0, 0) := by
  unfold canon_look.told
  rw [if_pos hfit, if_pos ⟨by rw [hp]; rfl, by omega⟩]
  rfl
 have hl : Ev (fun k => canon_look.f k (n : Int) l r) ((n : Int), nxOf l r, toOf l, 0, 0) := by
  unfold canon_look.f
  exact Ev.bind (next_ev hm c1) (Ev.congr (fun k => if_pos rfl) (Ev.bind o1 (Ev.congr (fun k => hres) (Ev.now _))))
 have h := one_ev hl
 rw [if_pos rfl] at h
 exact h
theorem code_map (hm : IsMap n l r) (hp : parts n l = 1) (h0 : 0 < l.length) : Ev (fun k => canon_Code.f k (n : Int) l r) (codes n l r (bestOf n l r).1, 0) := by
 unfold canon_Code.f
 exact Ev.bind (one_map hm hp h0) (Ev.congr (fun k => if_pos rfl) (Ev.bind (best_ev hm h0) (Ev.now _)))
theorem turns_map (hm : IsMap n l r) (hp : parts n l = 1) (h0 : 0 < l.length) : Ev (fun k => canon_Turns.f k (n : Int) l r) (((bestOf n l r).2 : Int), 0) := by
 unfold canon_Turns.f
 exact Ev.bind (one_map hm hp h0) (Ev.congr (fun k => if_pos rfl) (Ev.bind (best_ev hm h0) (Ev.now _)))
theorem ren_prs {φ : Int → Int} {E : Nat → Int} (hm : IsMap n l r) (hp : parts n l = 1) (hR : Ren n (nxOf l r) (toOf l) φ E) : Prs (nxOf l r) (toOf l) φ (prsTo (renN n (nxOf l r) (toOf l) φ E) n 0) := by
 have hw := web hm hp
 have hlen : (renN n (nxOf l r) (toOf l) φ E).length = n := by unfold renN; simp
 have hgl : ∀ v, v < n → gl (renN n (nxOf l r) (toOf l) φ E) v = (List.range (per (nxOf l r) (E v))).map fun j => φ (too (toOf l) (it (nxOf l r) (E v) j)) := fun v hv => by unfold renN; rw [gl_range _ hv]
 intro p
 have hmp := mem_prs (rows := renN n (nxOf l r) (toOf l) φ E) (p := p)
 rw [hlen] at hmp
 rw [hmp]
 constructor
 ·rintro ⟨v, j, hv, hj, rfl⟩
  rw [hgl v hv] at hj ⊢
  rw [List.length_map, List.length_range] at hj
  obtain ⟨hE, hE2⟩ := hR.ent v hv
  refine ⟨_, hE.it hw j, ?_⟩
  rw [gi_range _ hj, hw.fit' hE, hE2]
 ·rintro ⟨x, hx, rfl⟩
  have a := hw.fr hx
  have b := hR.rng _ a.1 a.2
  obtain ⟨v, hv⟩ := Int.eq_ofNat_of_zero_le b.1
  have hvn : v < n := by omega
  obtain ⟨hE, hE2⟩ := hR.ent v hvn
  have c := hw.fr hE
  obtain ⟨j, hj, ej⟩ := hw.arnd hE hx (hR.inj _ _ c.1 c.2 a.1 a.2 (by rw [hE2, hv]))
  refine ⟨v, j, hvn, by rw [hgl v hvn]; simpa using hj, ?_⟩
  rw [hgl v hvn, gi_range _ hj, ej, hv]
end
end Go.Proofs.Yteeihjpnhjnknaa.Rot
namespace Go.Proofs.Yteeihjpnhjnknaa.Rot
open Go.RowKit Go.Proofs.YteeihjpnhjnknaaW.PrintWords Go.Proofs.YteeihjpnhjnknaaW.PrintLast Go.Proofs.YteeihjpnhjnknaaW.PrintMore Go.Proofs.Yteeihjpnhjnknaa.GAll Go.Proofs.Yteeihjpnhjnknaa.Mem Go.Proofs.Yteeihjpnhjnknaa.Seen Go.Proofs.Yteeihjpnhjnknaa.Mk
set_option linter.unusedVariables false
set_option linter.unusedSimpArgs false
structure Nm (N : Nat) (nm : List Int) : Prop where
 len : nm.length = N
 rng : ∀ i, i < N → 0 ≤ gi nm i ∧ gi nm i < (N : Int)
 inj : ∀ i j, i < N → j < N → gi nm i = gi nm j → i = j
 onto : ∀ v, v < N → ∃ i, i < N ∧ gi nm i = (v : Int)
def swap2 (nm : List Int) (j k : Nat) : List Int := (nm.set j (gi nm k)).set k (gi nm j)
def sg (j k i : Nat) : Nat := if i = k then j else if i = j then k else i
theorem gi_swap2 {nm : List Int} {j k i : Nat} (hj : j < nm.length) (hk : k < nm.length) : gi (swap2 nm j k) i = gi nm (sg j k i) := by
 unfold swap2 sg
 rw [gi_set, gi_set, List.length_set]
 by_cases h : i = k
 ·subst h
  rw [if_pos ⟨rfl, hk⟩, if_pos rfl]
 ·rw [if_neg (fun e => h e.1.symm), if_neg h]
  by_cases h2 : i = j
  ·subst h2
   rw [if_pos ⟨rfl, hj⟩, if_pos rfl]
  ·rw [if_neg (fun e => h2 e.1.symm), if_neg h2]
theorem sg_sg (j k i : Nat) : sg j k (sg j k i) = i := by
 unfold sg
 split <;> split <;> (try split) <;> omega
theorem sg_lt {N j k i : Nat} (hj : j < N) (hk : k < N) (hi : i < N) : sg j k i < N := by
 unfold sg
 split
 ·exact hj
 ·split
  ·exact hk
  ·exact hi
theorem Nm.swap {N : Nat} {nm : List Int} (h : Nm N nm) {j k : Nat} (hj : j < N) (hk : k < N) : Nm N (swap2 nm j k) := by
 have hl := h.len
 have e : ∀ i, gi (swap2 nm j k) i = gi nm (sg j k i) := fun i => gi_swap2 (by omega) (by omega)
 refine ⟨by unfold swap2; rw [List.length_set, List.length_set]; exact hl, fun i hi => ?_, fun a b ha hb q => ?_, fun v hv => ?_⟩
 ·rw [e]; exact h.rng _ (sg_lt hj hk hi)
 ·rw [e, e] at q
  have := h.inj _ _ (sg_lt hj hk ha) (sg_lt hj hk hb) q
  have := congrArg (sg j k) this
  rwa [sg_sg, sg_sg] at this
 ·obtain ⟨i, hi, q⟩ := h.onto v hv
  exact ⟨sg j k i, sg_lt hj hk hi, by rw [e, sg_sg]; exact q⟩
theorem Nm.start (N : Nat) : Nm N ((List.range N).map fun (i : Nat) => (i : Int)) := by
 have e : ∀ i, i < N → gi ((List.range N).map fun (i : Nat) => (i : Int)) i = (i : Int) := fun i hi => gi_range _ hi
 refine ⟨by simp, fun i hi => ?_, fun a b ha hb q => ?_, fun v hv => ⟨v, hv, e v hv⟩⟩
 ·rw [e i hi]; omega
 ·rw [e a ha, e b hb] at q; omega
def nmTo (N : Nat) (order : List Int) : Nat → List Int
 | 0 => (List.range N).map fun (i : Nat) => (i : Int)
 | i + 1 => swap2 (nmTo N order i) (i % N) (Int.tmod (gi order i) (N : Int)).natAbs
theorem nmTo_nm {N : Nat} (hN : 0 < N) (order : List Int) : ∀ i, Nm N (nmTo N order i)
 | 0 => Nm.start N
 | i + 1 => by
  refine (nmTo_nm hN order i).swap (Nat.mod_lt _ hN) ?_
  rw [Int.natAbs_tmod]
  exact Nat.mod_lt _ (by omega)
def shf (order : List Int) (row : List Int) : Nat := if 0 < order.length ∧ 0 < gi order 0 then (Int.tmod (gi order 0) (row.length : Int)).toNat else 0
theorem shf_lt {order row : List Int} (h : 0 < row.length) : shf order row < row.length := by
 unfold shf
 split
 ·rename_i c
  have h1 := Int.tmod_lt_of_pos (gi order 0) (show (0 : Int) < (row.length : Int) by omega)
  have h2 := Int.tmod_nonneg (row.length : Int) (show (0 : Int) ≤ gi order 0 by omega)
  omega
 ·exact h
open Classical in
noncomputable def nmE (N : Nat) (r : List (List Int)) (nm order : List Int) (v : Nat) : Int :=
 if h : ∃ i, i < N ∧ gi nm i = (v : Int) then gi (gl r (Classical.choose h)) (shf order (gl r (Classical.choose h))) else 0
section
variable {n : Nat} {l : List Ed} {r : List (List Int)} {nm order : List Int}
theorem nmE_at (h : Nm n nm) {i : Nat} (hi : i < n) {v : Nat} (e : gi nm i = (v : Int)) : nmE n r nm order v = gi (gl r i) (shf order (gl r i)) := by
 have hx : ∃ i, i < n ∧ gi nm i = (v : Int) := ⟨i, hi, e⟩
 have hs := Classical.choose_spec hx
 have : Classical.choose hx = i := h.inj _ _ hs.1 hi (by rw [hs.2, e])
 unfold nmE
 rw [dif_pos hx, this]
theorem row_pos (hm : IsMap n l r) (hp : parts n l = 1) (h0 : 0 < l.length) {v : Nat} (hv : v < n) : 0 < (gl r v).length := by
 have hw := web hm hp
 have hF := full hw (root := 0) (by rw [hm.len]; omega)
 obtain ⟨i, h1, h2, h3⟩ := hF.inv.b v hv (hF.pos v hv)
 rw [hF.ord] at h1
 have h4 := hF.inE i h1
 have h5 := hF.inv.c i (by rw [hF.ent]; exact h1)
 rw [h3] at h5
 obtain ⟨x, hx⟩ := Int.eq_ofNat_of_zero_le h4.1
 rw [hx] at h4 h5
 have hlen := hm.len
 have hin : (x : Int) ∈ gl r v := by
  rw [hm.rot.mem v hv]
  unfold leaves
  rw [Bool.and_eq_true, Bool.and_eq_true, decide_eq_true_eq, decide_eq_true_eq, beq_iff_eq, frs_length, Int.toNat_natCast, ← frm_frs hm.good (by omega)]
  exact ⟨by omega, by omega, h5⟩
 exact List.length_pos_of_mem hin
theorem row_in (hm : IsMap n l r) {v j : Nat} (hv : v < n) (hj : j < (gl r v).length) : In (nxOf l r) (gi (gl r v) j) ∧ frm (toOf l) (gi (gl r v) j) = (v : Int) := by
 obtain ⟨a, b, c⟩ := hm.rot.at hv hj
 rw [frs_length] at b
 refine ⟨⟨a, by rw [hm.len]; exact b⟩, ?_⟩
 obtain ⟨x, hx⟩ := Int.eq_ofNat_of_zero_le a
 rw [hx] at b c ⊢
 rw [frm_frs hm.good (by omega)]
 rw [Int.toNat_natCast] at c
 exact c
theorem nm_ren (hm : IsMap n l r) (hp : parts n l = 1) (h0 : 0 < l.length) (h : Nm n nm) : Ren n (nxOf l r) (toOf l) (fun v => gi nm v.toNat) (nmE n r nm order) := by
 refine ⟨fun v h1 h2 => h.rng v.toNat (by omega), fun u v h1 h2 h3 h4 e => ?_, fun v hv => ?_⟩
 ·have := h.inj u.toNat v.toNat (by omega) (by omega) e
  omega
 ·obtain ⟨i, hi, e⟩ := h.onto v hv
  rw [nmE_at h hi e]
  obtain ⟨a, b⟩ := row_in hm hi (shf_lt (order := order) (row_pos hm hp h0 hi))
  refine ⟨a, ?_⟩
  show gi nm (frm (toOf l) _).toNat = _
  rw [b, Int.toNat_natCast, e]
theorem nm_row (hm : IsMap n l r) (hp : parts n l = 1) (h0 : 0 < l.length) (h : Nm n nm) {i : Nat} (hi : i < n) {v : Nat} (e : gi nm i = (v : Int)) (hv : v < n) :
  gl (renN n (nxOf l r) (toOf l) (fun v => gi nm v.toNat) (nmE n r nm order)) v = (List.range (gl r i).length).map fun j => gi nm (too (toOf l) (gi (gl r i) ((j + shf order (gl r i)) % (gl r i).length))).toNat := by
 have hs := shf_lt (order := order) (row_pos hm hp h0 hi)
 unfold renN
 rw [gl_range _ hv, nmE_at h hi e, per_row hm.rot (nxOf_next hm.rot) hi hs]
 refine List.map_congr_left fun j hj => ?_
 rw [it_at hm.rot (nxOf_next hm.rot) hi hs, Nat.add_comm]
end
end Go.Proofs.Yteeihjpnhjnknaa.Rot
