/- DERIVED. Texts of this seat, one behind the other: lemmas and walks that the statement RotFrom needs. No condition. -/
import Derived.Test.YtkkhhbegeboonaaCRotFroma
import Derived.Test.YtkkhhbegeboonaaCRotFromc
import Derived.SizedLaws
import Derived.ChangeSlices
import Derived.ProofKit
import Derived.OpenShut
import Derived.ChangeOld
import Derived.Deep.Slices
-- Written by a program of this session (wip/tools/printx.py) over the kit's printer and texts of its own; it is no print of print.sh.




namespace Go.Proofs.Ytkkhhbegeboonaa.GAll
open Go.RowKit Go.Proofs.YtkkhhbegeboonaaW.PrintWords Go.Proofs.YtkkhhbegeboonaaW.PrintLast Go.Proofs.YtkkhhbegeboonaaW.PrintMore
attribute [local go_sem] max2_int min2_int max_two min_two max_three min_three max_four min_four   -- for this text's walks alone
set_option linter.unusedVariables false
set_option linter.unusedSimpArgs false

/-! ### tangramref11_Of: function 23 -/
mutual
def tangramref11_Of.l0 : Nat → List (List Int) → List (List Int) → Int → Int → List (S59) → Option ((List (List Int)) × Int × Int)
  | 0, _, _, _, _, _ => none
  | k + 1, x1, x7, x8, x251000, x251001 => if x8 < x251000 then (tangramref11_Of.l1 k x1 x7 x8 ([] : List Int) 0 x251000 x251001) else (some (x7, 0, 0))
def tangramref11_Of.l1 : Nat → List (List Int) → List (List Int) → Int → List Int → Int → Int → List (S59) → Option ((List (List Int)) × Int × Int)
  | 0, _, _, _, _, _, _, _ => none
  | k + 1, x1, x7, x8, x9, x10, x251000, x251001 => if 0 ≤ x8 then (if x8 < (x1.length : Int) then (if x10 < ((rd_L4 x1 x8).length : Int) then (if 0 ≤ x10 then ((tangramref11_Half.f k x251000 x251001 x8 (rd (rd_L4 x1 x8) x10)).bind fun t259 => (if t259 < 0 then (some (([] : List (List Int)), x8, 111)) else ((tangramref11_stands.f k (rd_L4 x1 x8) x10 (rd (rd_L4 x1 x8) x10)).bind fun t263 => (if t263 = true then (some (([] : List (List Int)), x8, 112)) else (if x9.length < 17592186044416 then (tangramref11_Of.l1 k x1 x7 x8 (x9 ++ [t259]) (wrap64 (x10 + 1)) x251000 x251001) else (none)))))) else (none)) else ((tangramref11_degree.f k x251000 x251001 x8).bind fun t253 => (if (x9.length : Int) < t253 then (some (([] : List (List Int)), x8, 113)) else (if x7.length < 5864062014805 then (tangramref11_Of.l0 k x1 (x7 ++ [x9]) (wrap64 (x8 + 1)) x251000 x251001) else (none))))) else (none)) else (none)
end
def tangramref11_Of.f (k : Nat) (a0_0 : Int) (l0_1 : List (S59)) (l1 : List (List Int)) : Option ((List (List Int)) × Int × Int) := (tangramref03_Valid.f k a0_0 l0_1).bind fun t251 => (if t251 = true then (if (l1.length : Int) = a0_0 then (tangramref11_Of.l0 k l1 ([] : List (List Int)) 0 a0_0 l0_1) else (some (([] : List (List Int)), 0, 110))) else (some (([] : List (List Int)), 0, 1)))
theorem tangramref11_Of.mono_l : ∀ k, (∀ y0 y1 y2 y3 y4, LeO (tangramref11_Of.l0 k y0 y1 y2 y3 y4) (tangramref11_Of.l0 (k + 1) y0 y1 y2 y3 y4)) ∧ (∀ y0 y1 y2 y3 y4 y5 y6, LeO (tangramref11_Of.l1 k y0 y1 y2 y3 y4 y5 y6) (tangramref11_Of.l1 (k + 1) y0 y1 y2 y3 y4 y5 y6))
  | 0 => ⟨fun _ _ _ _ _ r h => by simp [tangramref11_Of.l0] at h, fun _ _ _ _ _ _ _ r h => by simp [tangramref11_Of.l1] at h⟩
  | k + 1 => by
    obtain ⟨ih0, ih1⟩ := tangramref11_Of.mono_l k
    refine ⟨?_, ?_⟩
    · intro y0 y1 y2 y3 y4
      unfold tangramref11_Of.l0
      repeat' first
      | (with_reducible exact ih0 _ _ _ _ _)
      | (with_reducible exact ih1 _ _ _ _ _ _ _)
      | (with_reducible exact tangramref03_Valid.mono _ _ _)
      | (with_reducible exact tangramref11_Half.mono _ _ _ _ _)
      | (with_reducible exact tangramref11_degree.mono _ _ _ _)
      | (with_reducible exact tangramref11_stands.mono _ _ _ _)
      | (with_reducible exact LeO.refl _)
      | (with_reducible exact LeO.none _)
      | (with_reducible refine LeO.ite ?_ ?_)
      | (with_reducible refine LeO.bind ?_ (fun _ => ?_))
      | exact ih0 _ _ _ _ _
      | exact ih1 _ _ _ _ _ _ _
      | exact tangramref03_Valid.mono _ _ _
      | exact tangramref11_Half.mono _ _ _ _ _
      | exact tangramref11_degree.mono _ _ _ _
      | exact tangramref11_stands.mono _ _ _ _
      | exact LeO.none _
      | refine LeO.ite ?_ ?_
      | refine LeO.bind ?_ (fun _ => ?_)
    · intro y0 y1 y2 y3 y4 y5 y6
      unfold tangramref11_Of.l1
      repeat' first
      | (with_reducible exact ih0 _ _ _ _ _)
      | (with_reducible exact ih1 _ _ _ _ _ _ _)
      | (with_reducible exact tangramref03_Valid.mono _ _ _)
      | (with_reducible exact tangramref11_Half.mono _ _ _ _ _)
      | (with_reducible exact tangramref11_degree.mono _ _ _ _)
      | (with_reducible exact tangramref11_stands.mono _ _ _ _)
      | (with_reducible exact LeO.refl _)
      | (with_reducible exact LeO.none _)
      | (with_reducible refine LeO.ite ?_ ?_)
      | (with_reducible refine LeO.bind ?_ (fun _ => ?_))
      | exact ih0 _ _ _ _ _
      | exact ih1 _ _ _ _ _ _ _
      | exact tangramref03_Valid.mono _ _ _
      | exact tangramref11_Half.mono _ _ _ _ _
      | exact tangramref11_degree.mono _ _ _ _
      | exact tangramref11_stands.mono _ _ _ _
      | exact LeO.none _
      | refine LeO.ite ?_ ?_
      | refine LeO.bind ?_ (fun _ => ?_)
theorem tangramref11_Of.mono : ∀ a0 a1 a2 k, LeO (tangramref11_Of.f k a0 a1 a2) (tangramref11_Of.f (k + 1) a0 a1 a2) := by
  intro a0 a1 a2 k
  obtain ⟨ih0, ih1⟩ := tangramref11_Of.mono_l k
  unfold tangramref11_Of.f
  repeat' first
      | (with_reducible exact ih0 _ _ _ _ _)
      | (with_reducible exact ih1 _ _ _ _ _ _ _)
      | (with_reducible exact tangramref03_Valid.mono _ _ _)
      | (with_reducible exact tangramref11_Half.mono _ _ _ _ _)
      | (with_reducible exact tangramref11_degree.mono _ _ _ _)
      | (with_reducible exact tangramref11_stands.mono _ _ _ _)
      | (with_reducible exact LeO.refl _)
      | (with_reducible exact LeO.none _)
      | (with_reducible refine LeO.ite ?_ ?_)
      | (with_reducible refine LeO.bind ?_ (fun _ => ?_))
      | exact ih0 _ _ _ _ _
      | exact ih1 _ _ _ _ _ _ _
      | exact tangramref03_Valid.mono _ _ _
      | exact tangramref11_Half.mono _ _ _ _ _
      | exact tangramref11_degree.mono _ _ _ _
      | exact tangramref11_stands.mono _ _ _ _
      | exact LeO.none _
      | refine LeO.ite ?_ ?_
      | refine LeO.bind ?_ (fun _ => ?_)
def tangramref11_Of.T13 : Bool × List (List Nat × List Nat) := (true, [([], []), ([], []), ([], []), ([], []), ([2, 3], [2, 3]), ([4], [4]), ([], []), ([5, 6], [5, 6]), ([7], [7]), ([0, 1, 8], [0, 1, 8]), ([9, 9, 0, 1, 2, 3, 4, 5, 6, 7, 8, 9], [9])])
def tangramref11_Of.B13 : List Nat := [0, 0, 0, 0, 12, 28, 0, 124, 252, 511, 1023]
theorem tangramref11_Of.tab13 : rtab .any (opsOf Try.f23 13) = tangramref11_Of.T13 := by kernel_rfl
theorem tangramref11_Of.bits13 : waitsOk tangramref11_Of.T13.2 tangramref11_Of.B13 = true := by kernel_rfl
def tangramref11_Of.T16 : Bool × List (List Nat × List Nat) := (true, [([], []), ([], []), ([0, 1], [0, 1]), ([2], [2]), ([], []), ([], []), ([], []), ([5, 6], [5, 6]), ([7], [7]), ([], []), ([8, 9], [8, 9]), ([10], [10]), ([3, 4, 11], [3, 4, 11])])
def tangramref11_Of.B16 : List Nat := [0, 0, 3, 7, 0, 0, 0, 96, 224, 0, 992, 2016, 4095]
theorem tangramref11_Of.tab16 : rtab .any (opsOf Try.f23 16) = tangramref11_Of.T16 := by kernel_rfl
theorem tangramref11_Of.bits16 : waitsOk tangramref11_Of.T16.2 tangramref11_Of.B16 = true := by kernel_rfl
set_option maxHeartbeats 8000000 in
set_option maxRecDepth 100000 in
theorem tangramref11_Of.calls (k : Nat) (a0_0 : Int) (A0_1 : Option Addr) (c0_1 : Nat) (l0_1 : List (S59)) (A1 : Option Addr) (c1 : Nat) (l1 : List (List Int)) (r1 : List (List Int)) (r2 : Int) (r3 : Int) (w : World) (hr0_1 : Kd.C k59 w A0_1 l0_1.length l0_1) (hc0_1 : l0_1.length ≤ c0_1) (hr1 : Kd.C (Kd.slice 3 (Kd.int .i64)) w A1 l1.length l1) (hc1 : l1.length ≤ c1) (h : tangramref11_Of.f k a0_0 l0_1 l1 = some (r1, r2, r3)) :
    Calls Try.prog 23 #[.agg #[.int .i64 a0_0, .slice A0_1 l0_1.length c0_1], .slice A1 l1.length c1] w fun e w' => ∃ v0_ : Value, e = .returned (.tuple #[v0_, .int .i64 r2, .int .i64 r3]) ∧ Kd.S (Kd.slice 3 (Kd.int .i64)) 28 w' w.heap.size (fun _ => True) v0_ r1 ∧ Below w.heap.size w w' := by
  have hu24 := Try.underlying24
  have HR0_1 := Aside0.mk hr0_1
  have HC0_1 := Aside0.mk hc0_1
  clear hr0_1 hc0_1
  have HR1 := Aside0.mk hr1
  have HC1 := Aside0.mk hc1
  clear hr1 hc1
  have HB := Aside0.mk (Below.refl w.heap.size w)
  have H : ((tangramref03_Valid.f k a0_0 l0_1).bind fun t251 => (if t251 = true then (if (l1.length : Int) = a0_0 then (tangramref11_Of.l0 k l1 ([] : List (List Int)) 0 a0_0 l0_1) else (some (([] : List (List Int)), 0, 110))) else (some (([] : List (List Int)), 0, 1)))) = some (r1, r2, r3) := h
  clear h
  replace H := Option.bind_eq_some_iff.mp H
  obtain ⟨t251, A30, H⟩ := H
  replace H : (if t251 = true then (if (l1.length : Int) = a0_0 then (tangramref11_Of.l0 k l1 ([] : List (List Int)) 0 a0_0 l0_1) else (some (([] : List (List Int)), 0, 110))) else (some (([] : List (List Int)), 0, 1))) = some (r1, r2, r3) := H
  have A3 := Aside0.mk A30
  clear A30
  by_cases c4 : t251 = true
  · subst c4
    have H1 : (if (l1.length : Int) = a0_0 then (tangramref11_Of.l0 k l1 ([] : List (List Int)) 0 a0_0 l0_1) else (some (([] : List (List Int)), 0, 110))) = some (r1, r2, r3) := by rw [if_pos rfl] at H; exact H
    clear H
    have H := H1
    clear H1
    by_cases c5 : (l1.length : Int) = a0_0
    · rw [if_pos c5] at H
      have c5b0 : ((l1.length : Int) == a0_0) = true := beq_iff_eq.mpr c5
      have c5b1 : ((l1.length : Int) != a0_0) = false := bne_eq_false_iff_eq.mpr c5
      clear c5
      have H' := Aside0.mk H
      clear H
      go_enter Try.func23, Try.ntmps23
      go_wp2_with (first | ((with_reducible refine gate_dst (N := 2) rfl ?_); refine box_event ?hg (N := 2) ?hd (cs := #[.int .i64 a0_0, .slice A0_1 l0_1.length c0_1]) (t := 24) ?hr ?_; (case hd => rfl); (case hg => rfl); (case hr => first | (go_simp; done) | (go_simp; rfl)); intro gb250 hg w6 hbox hb; have n0_ := Aside0.mk (below_step (by repeat (first | (with_reducible first | exact HB.out | apply below_alloc | apply pw_below_drewN | apply below_drew1) | exact HB.out)) hb); have n1_ := Aside0.mk (hbox); have n2_ := Aside0.mk ((by rw [hg]; exact (below_size (by repeat (first | (with_reducible first | exact HB.out | apply below_alloc | apply pw_below_drewN | apply below_drew1) | exact HB.out))) : w.heap.size ≤ gb250)); have n3_ := Aside0.mk ((by rw [hg]; exact (below_size (by repeat (first | (with_reducible first | exact HB.out | apply below_alloc | apply pw_below_drewN | apply below_drew1) | exact HB.out))) : w.heap.size ≤ gb250)); clear HB; have HB := n0_; have BK250 := n1_; have GW250 := n2_; have GE250 := n3_; clear n0_ n1_ n2_ n3_; clear hb hbox hg; have hcz7_0 : w6.cell? ⟨gb250, 0, none⟩ = some (.int .i64 a0_0) := (blk_cell BK250.out 0).trans rfl; have hcz7_1 : w6.cell? ⟨gb250, 1, none⟩ = some (.slice A0_1 l0_1.length c0_1) := (blk_cell BK250.out 1).trans rfl; have hfz7_0 := blk_frozen BK250.out 0; have hfz7_1 := blk_frozen BK250.out 1) | ((with_reducible refine gate_callee (f := 13) rfl ?_); refine goesL_ (some 13) rfl rfl Try.func13 (by kernel_rfl) rfl #[.agg #[.int .i64 a0_0, .slice A0_1 l0_1.length c0_1]] rfl (by (try simp only [List.map_toArray, List.map_cons, List.map_nil]); first | done | rfl | (simp only [List.length_drop, List.length_take]; rfl)) ?_; (with_reducible refine (tangramref03_Valid.calls k a0_0 _ _ l0_1 true _ ?side1 ?side2 A3.out).mono ?_); (case side1 => repeat (first | exact (Kd.C_below HR0_1.out HB.out) | (with_reducible refine Kd.C_alloc ?_ _) | (with_reducible refine Kd.C_drewN ?_ _) | (with_reducible refine Kd.C_drew ?_))); (case side2 => exact HC0_1.out); rintro e w8 ⟨rfl, hb⟩; refine ⟨_, rfl, ?_⟩; have n0_ := Aside0.mk (blk_below (g := gb250) (o := .cells #[.int .i64 a0_0, .slice A0_1 l0_1.length c0_1] 24 (0, 0)) (by (with_reducible repeat (first | refine blk_drewN ?_ _ | refine blk_drew ?_ | refine blk_alloc ?_ _)); exact BK250.out) hb); have n1_ := Aside0.mk (below_step (by repeat (first | (with_reducible first | exact HB.out | apply below_alloc | apply pw_below_drewN | apply below_drew1 | refine below_set ?_ GE250.out) | exact HB.out)) hb); clear BK250; clear HB; have BK250 := n0_; have HB := n1_; clear n0_ n1_; (try clear hb); (try clear hb2); (try clear hk); (try clear hi); have hcz9_0 : w8.cell? ⟨gb250, 0, none⟩ = some (.int .i64 a0_0) := (blk_cell BK250.out 0).trans rfl; have hcz9_1 : w8.cell? ⟨gb250, 1, none⟩ = some (.slice A0_1 l0_1.length c0_1) := (blk_cell BK250.out 1).trans rfl; have hfz9_0 := blk_frozen BK250.out 0; have hfz9_1 := blk_frozen BK250.out 1))
      go_loopg [7, 8] k (fun kq v7 v8 w' => ∃ (x7_1 : List (List Int)) (x8_1 : Int), v8 = .int .i64 x8_1 ∧ Aside0 (tangramref11_Of.l0 kq l1 x7_1 x8_1 a0_0 l0_1 = some (r1, r2, r3)) ∧ Aside0 (kq ≤ k) ∧ Aside0 (Kd.S (Kd.slice 3 (Kd.int .i64)) 28 w' w.heap.size (fun _ => True) v7 x7_1) ∧ Aside0 (w'.heap[gb250]? = some (.cells #[.int .i64 a0_0, (.slice A0_1 l0_1.length c0_1)] 24 (0, 0))) ∧ Aside0 (Below w.heap.size w w'))
      case atStart => exact ⟨(([] : List (List Int))), (0), (by first | rfl | (simp; done) | (simp [*]; done)), H', ⟨Nat.le_refl _⟩, ⟨by first | exact Kd.S_nil _ _ _ _ _ | exact Kd.N_nil _ _ _ _ _ | exact Kd.V_nil _ _ _ _ _ | exact Kd.Q_nil _ _ _ _ _ | exact Kd.R_nil _ _ _ _ _⟩, ⟨by (with_reducible repeat (first | refine blk_drewN ?_ _ | refine blk_drew ?_ | refine blk_alloc ?_ _)); exact BK250.out⟩, ⟨by repeat (first | (with_reducible first | exact HB.out | apply below_alloc | apply pw_below_drewN | apply below_drew1 | refine below_set ?_ GE250.out) | exact HB.out)⟩⟩
      case round =>
        clear H'
        try clear c1
        try clear c2
        try clear p2
        try clear c4
        try clear c5
        try clear c5b0
        try clear c5b1
        try clear hcz7_0
        try clear hcz7_1
        try clear hcz9_0
        try clear hcz9_1
        try clear hfz7_0
        try clear hfz7_1
        try clear hfz9_0
        try clear hfz9_1
        obtain ⟨x7_1, x8_1, rfl, HA, HK1, HO_7, BK250, HB⟩ := hrel
        cases gk with
        | zero => exact absurd HA.out (by simp [tangramref11_Of.l0])
        | succ k1 =>
          have H := HA.out
          clear HA
          simp only [tangramref11_Of.l0] at H
          by_cases c10 : x8_1 < a0_0
          · rw [if_pos c10] at H
            have c10b0 : decide (x8_1 < a0_0) = true := decide_eq_true c10
            clear c10
            have H' := Aside0.mk H
            clear H
            have hcz11_0 : wr.cell? ⟨gb250, 0, none⟩ = some (.int .i64 a0_0) := (blk_cell BK250.out 0).trans rfl
            have hcz11_1 : wr.cell? ⟨gb250, 1, none⟩ = some (.slice A0_1 l0_1.length c0_1) := (blk_cell BK250.out 1).trans rfl
            have hfz11_0 := blk_frozen BK250.out 0
            have hfz11_1 := blk_frozen BK250.out 1
            go_wp2
            go_loopg [9, 10] k1 (fun kq v9 v10 w' => ∃ (x9_2 : List Int) (x10_2 : Int), v10 = .int .i64 x10_2 ∧ Aside0 (tangramref11_Of.l1 kq l1 x7_1 x8_1 x9_2 x10_2 a0_0 l0_1 = some (r1, r2, r3)) ∧ Aside0 (kq ≤ k1) ∧ Aside0 (Kd.S (Kd.slice 3 (Kd.int .i64)) 28 w' w.heap.size (fun k_ => some k_ ≠ (v9 : Value).ownBlock) u7 x7_1) ∧ Aside0 (Kd.R (Kd.int .i64) 3 w' w.heap.size (fun _ => True) v9 x9_2) ∧ Aside0 (w'.heap[gb250]? = some (.cells #[.int .i64 a0_0, (.slice A0_1 l0_1.length c0_1)] 24 (0, 0))) ∧ Aside0 (Below w.heap.size w w'))
            case atStart => exact ⟨(([] : List Int)), (0), (by first | rfl | (simp; done) | (simp [*]; done)), H', ⟨Nat.le_refl _⟩, ⟨by (with_reducible repeat (first | apply Kd.S_alloc | apply Kd.S_drewN | apply Kd.S_drew)); exact Kd.S_mono HO_7.out (fun _ hk => (by simp [Value.ownBlock]))⟩, ⟨by first | exact Kd.R_nil _ _ _ _ _ | exact Kd.N_nil _ _ _ _ _ | exact Kd.V_nil _ _ _ _ _ | exact Kd.Q_nil _ _ _ _ _ | exact Kd.S_nil _ _ _ _ _⟩, ⟨by (with_reducible repeat (first | refine blk_drewN ?_ _ | refine blk_drew ?_ | refine blk_alloc ?_ _)); exact BK250.out⟩, ⟨by repeat (first | (with_reducible first | exact HB.out | apply below_alloc | apply pw_below_drewN | apply below_drew1 | refine below_set ?_ GE250.out) | exact HB.out)⟩⟩
            case round =>
              clear H'
              try clear c1
              try clear c2
              try clear p2
              try clear c4
              try clear c5
              try clear c5b0
              try clear c5b1
              try clear c10
              try clear c10b0
              try clear hcz11_0
              try clear hcz11_1
              try clear hcz7_0
              try clear hcz7_1
              try clear hcz9_0
              try clear hcz9_1
              try clear hfz11_0
              try clear hfz11_1
              try clear hfz7_0
              try clear hfz7_1
              try clear hfz9_0
              try clear hfz9_1
              try clear p2
              obtain ⟨x9_2, x10_2, rfl, HA, HK2, HO_7, HO_9, BK250, HB⟩ := hrel
              cases gk with
              | zero => exact absurd HA.out (by simp [tangramref11_Of.l1])
              | succ k2 =>
                have H := HA.out
                clear HA
                simp only [tangramref11_Of.l1] at H
                by_cases c12 : 0 ≤ x8_1
                · rw [if_pos c12] at H
                  have c12b0 : decide (0 ≤ x8_1) = true := decide_eq_true c12
                  clear c12
                  by_cases c13 : x8_1 < (l1.length : Int)
                  · rw [if_pos c13] at H
                    have c13b0 : decide (x8_1 < (l1.length : Int)) = true := decide_eq_true c13
                    clear c13
                    by_cases c14 : x10_2 < ((rd_L4 l1 x8_1).length : Int)
                    · rw [if_pos c14] at H
                      have c14b0 : decide (x10_2 < ((rd_L4 l1 x8_1).length : Int)) = true := decide_eq_true c14
                      clear c14
                      by_cases c15 : 0 ≤ x10_2
                      · rw [if_pos c15] at H
                        have c15b0 : decide (0 ≤ x10_2) = true := decide_eq_true c15
                        clear c15
                        replace H := Option.bind_eq_some_iff.mp H
                        obtain ⟨t259, A160, H⟩ := H
                        replace H : (if t259 < 0 then (some (([] : List (List Int)), x8_1, 111)) else ((tangramref11_stands.f k2 (rd_L4 l1 x8_1) x10_2 (rd (rd_L4 l1 x8_1) x10_2)).bind fun t263 => (if t263 = true then (some (([] : List (List Int)), x8_1, 112)) else (if x9_2.length < 17592186044416 then (tangramref11_Of.l1 k2 l1 x7_1 x8_1 (x9_2 ++ [t259]) (wrap64 (x10_2 + 1)) a0_0 l0_1) else (none))))) = some (r1, r2, r3) := H
                        have A16 := Aside0.mk A160
                        clear A160
                        by_cases c17 : t259 < 0
                        · rw [if_pos c17] at H
                          have c17b0 : decide (t259 < 0) = true := decide_eq_true c17
                          clear c17
                          simp only [Option.some.injEq, Prod.mk.injEq] at H
                          obtain ⟨rfl, rfl, rfl⟩ := H
                          have p252 : 0 ≤ (x8_1 : Int) := of_decide_eq_true (by first | (with_reducible assumption) | assumption)
                          have q252 : x8_1 < (l1.length : Int) := of_decide_eq_true (by first | (with_reducible assumption) | assumption)
                          obtain ⟨ad252, A252_0, c252_0, e252, hx252_0, hl252_0, hi252_0⟩ := at_L4 HR1.out x8_1 p252 q252
                          cases e252
                          replace hx252_0 := (HB.out.cell (World.block_lt_of_cell? w _ hx252_0)).trans hx252_0
                          have HR252_0 := Aside0.mk hi252_0
                          have HC252_0 := Aside0.mk hl252_0
                          clear hi252_0 hl252_0
                          replace p252 := eq_true p252
                          replace q252 := eq_true q252
                          try go_wp2
                          have n0_ := Aside0.mk (Kd.S_drew HO_7.out)
                          have n1_ := Aside0.mk (Kd.R_drew HO_9.out)
                          have n2_ := Aside0.mk (blk_drew BK250.out)
                          have n3_ := Aside0.mk (below_drew1 HB.out)
                          clear HO_7
                          clear HO_9
                          clear BK250
                          clear HB
                          have HO_7 := n0_
                          have HO_9 := n1_
                          have BK250 := n2_
                          have HB := n3_
                          clear n0_ n1_ n2_ n3_
                          have p257 : 0 ≤ (x8_1 : Int) := of_decide_eq_true (by first | (with_reducible assumption) | assumption)
                          have q257 : x8_1 < (l1.length : Int) := of_decide_eq_true (by first | (with_reducible assumption) | assumption)
                          obtain ⟨ad257, A257_0, c257_0, e257, hx257_0, hl257_0, hi257_0⟩ := at_L4 HR1.out x8_1 p257 q257
                          have hw257_0 := hx257_0
                          obtain rfl : ad252 = ad257 := (by injection e257)
                          replace hx257_0 := (HB.out.cell (World.block_lt_of_cell? w _ hx257_0)).trans hx257_0
                          have HR257_0 := Aside0.mk hi257_0
                          have HC257_0 := Aside0.mk hl257_0
                          clear hi257_0 hl257_0
                          replace p257 := eq_true p257
                          replace q257 := eq_true q257
                          have p258 : 0 ≤ (x10_2 : Int) := of_decide_eq_true (by first | (with_reducible assumption) | assumption)
                          have q258 : x10_2 < ((rd_L4 l1 x8_1).length : Int) := of_decide_eq_true (by first | (with_reducible assumption) | assumption)
                          obtain ⟨ad258, e258, hx258_0⟩ := Kd.at_int HR257_0.out x10_2 p258 q258
                          have hw258_0 := hx258_0
                          cases e258
                          replace hx258_0 := (HB.out.cell (World.block_lt_of_cell? w _ hx258_0)).trans hx258_0
                          replace p258 := eq_true p258
                          replace q258 := eq_true q258
                          refine start_ (n := 11) (S := fun w' => w'.cell? ⟨gb250, 0, none⟩ = some (.int .i64 a0_0) ∧ w'.cell? ⟨gb250, 1, none⟩ = some (.slice A0_1 l0_1.length c0_1) ∧ w'.cell? (ad252.add (x8_1).toNat) = some (.slice (some ad258) (rd_L4 l1 x8_1).length c257_0) ∧ w'.cell? (ad258.add (x10_2).toNat) = some (.int .i64 (rd (rd_L4 l1 x8_1) x10_2))) (ds := []) #[false, false, false, false, false, false, false, false, false, false, false] (by kernel_rfl) rfl rfl ⟨(blk_cell BK250.out 0).trans rfl, (blk_cell BK250.out 1).trans rfl, ((HB.out.cell (World.block_lt_of_cell? w _ hw257_0)).trans hw257_0), ((HB.out.cell (World.block_lt_of_cell? w _ hw258_0)).trans hw258_0)⟩ (fun hHeld => ?_); refine with_tabW tangramref11_Of.tab13 tangramref11_Of.bits13 (fun HT_ HW_ => ?_)
                          generalize wr.drew = w18 at HO_7 HO_9 BK250 HB HR257_0 hx257_0 hx258_0 hHeld ⊢
                          refine pure_ (i := 1) (N := some 36) (v := ?_) (a' := ?_) #[false, true, false, false, false, false, false, false, false, false, false] rfl rfl (any_of HT_.out (by kernel_rfl)) (fun _ _ _ h => h) (Or.inl ⟨by rfl, ?_⟩) ?_ ?_
                          rotate_left
                          · intro w'
                            go_simp
                            with_reducible rfl
                          rotate_left
                          · simp only [Act.put, List.setIfInBounds_toArray, List.set_cons_zero, List.set_cons_succ, i64_w, i32_w]
                            rfl
                          refine pure_ (i := 2) (N := some 37) (v := ?_) (a' := ?_) #[false, true, true, false, false, false, false, false, false, false, false] rfl rfl (any_of HT_.out (by kernel_rfl)) (fun _ _ _ h => h) (Or.inl ⟨by rfl, ?_⟩) ?_ ?_
                          rotate_left
                          · intro w'
                            go_simp
                            with_reducible rfl
                          rotate_left
                          · simp only [Act.put, List.setIfInBounds_toArray, List.set_cons_zero, List.set_cons_succ, i64_w, i32_w]
                            rfl
                          refine pure_ (i := 3) (N := some 38) (v := ?_) (a' := ?_) #[false, true, true, true, false, false, false, false, false, false, false] rfl rfl (any_of HT_.out (by kernel_rfl)) (fun _ _ _ h => h) (Or.inl ⟨by rfl, ?_⟩) ?_ ?_
                          rotate_left
                          · intro w'
                            go_simp
                            with_reducible rfl
                          rotate_left
                          · simp only [Act.put, List.setIfInBounds_toArray, List.set_cons_zero, List.set_cons_succ, i64_w, i32_w]
                            rfl
                          refine pure_ (i := 4) (N := some 39) (v := ?_) (a' := ?_) #[false, true, true, true, true, false, false, false, false, false, false] rfl rfl (any_of HT_.out (by kernel_rfl)) (fun _ _ _ h => h) (Or.inl ⟨by rfl, ?_⟩) ?_ ?_
                          rotate_left
                          · intro w'
                            go_simp
                            with_reducible rfl
                          rotate_left
                          · simp only [Act.put, List.setIfInBounds_toArray, List.set_cons_zero, List.set_cons_succ, i64_w, i32_w]
                            rfl
                          refine pure_ (i := 6) (N := some 41) (v := ?_) (a' := ?_) #[false, true, true, true, true, false, true, false, false, false, false] rfl rfl (any_of HT_.out (by kernel_rfl)) (fun _ _ _ h => h) (Or.inl ⟨by rfl, ?_⟩) ?_ ?_
                          rotate_left
                          · intro w'
                            go_simp
                            with_reducible rfl
                          rotate_left
                          · simp only [Act.put, List.setIfInBounds_toArray, List.set_cons_zero, List.set_cons_succ, i64_w, i32_w]
                            rfl
                          refine take_ (i := 0) (N := some 35) (v := ?_) (a' := ?_) #[true, true, true, true, true, false, true, false, false, false, false] rfl rfl (take_ofW HT_.out HW_.out (by kernel_rfl)) (fun _ _ _ h => h) (Or.inl ⟨by rfl, ?_⟩) hHeld ?_ ?_
                          rotate_left
                          · rintro w' ⟨s0, s1, s2, s3⟩
                            go_simp
                            with_reducible rfl
                          rotate_left
                          · simp only [Act.put, List.setIfInBounds_toArray, List.set_cons_zero, List.set_cons_succ, i64_w, i32_w]
                            rfl
                          refine take_ (i := 5) (N := some 40) (v := ?_) (a' := ?_) #[true, true, true, true, true, true, true, false, false, false, false] rfl rfl (take_ofW HT_.out HW_.out (by kernel_rfl)) (fun _ _ _ h => h) (Or.inl ⟨by rfl, ?_⟩) hHeld ?_ ?_
                          rotate_left
                          · rintro w' ⟨s0, s1, s2, s3⟩
                            go_simp
                            with_reducible rfl
                          rotate_left
                          · simp only [Act.put, List.setIfInBounds_toArray, List.set_cons_zero, List.set_cons_succ, i64_w, i32_w]
                            rfl
                          refine pure_ (i := 7) (N := some 42) (v := ?_) (a' := ?_) #[true, true, true, true, true, true, true, true, false, false, false] rfl rfl (any_of HT_.out (by kernel_rfl)) (fun _ _ _ h => h) (Or.inl ⟨by rfl, ?_⟩) ?_ ?_
                          rotate_left
                          · intro w'
                            go_simp
                            with_reducible rfl
                          rotate_left
                          · simp only [Act.put, List.setIfInBounds_toArray, List.set_cons_zero, List.set_cons_succ, i64_w, i32_w]
                            rfl
                          refine take_ (i := 8) (N := some 43) (v := ?_) (a' := ?_) #[true, true, true, true, true, true, true, true, true, false, false] rfl rfl (take_ofW HT_.out HW_.out (by kernel_rfl)) (fun _ _ _ h => h) (Or.inl ⟨by rfl, ?_⟩) hHeld ?_ ?_
                          rotate_left
                          · rintro w' ⟨s0, s1, s2, s3⟩
                            go_simp
                            with_reducible rfl
                          rotate_left
                          · simp only [Act.put, List.setIfInBounds_toArray, List.set_cons_zero, List.set_cons_succ, i64_w, i32_w]
                            rfl
                          refine one_ (i := 9) (N := some 44) #[true, true, true, true, true, true, true, true, true, true, false] rfl rfl (one_of HT_.out (by kernel_rfl)) (by decide) (fun K hK => ?_)
                          refine goes_ Try.func46 (by kernel_rfl) rfl #[.agg #[.int .i64 a0_0, .slice A0_1 l0_1.length c0_1], .int .i64 x8_1, .int .i64 (rd (rd_L4 l1 x8_1) x10_2)] (by rfl) rfl rfl (by (try simp only [List.map_toArray, List.map_cons, List.map_nil]); first | done | rfl | (simp only [List.length_drop, List.length_take]; rfl)) ?_
                          with_reducible refine (tangramref11_Half.calls k2 a0_0 _ _ l0_1 x8_1 (rd (rd_L4 l1 x8_1) x10_2) t259 _ ?side1 ?side2 A16.out).mono ?_
                          (case side1 => repeat (first | exact (Kd.C_below HR0_1.out HB.out) | (with_reducible refine Kd.C_alloc ?_ _) | (with_reducible refine Kd.C_drewN ?_ _) | (with_reducible refine Kd.C_drew ?_)))
                          (case side2 => exact HC0_1.out)
                          rintro e w19 ⟨rfl, hb⟩
                          refine ⟨_, rfl, ?_⟩
                          have n0_ := Aside0.mk (Kd.S_below (by (with_reducible repeat (first | apply Kd.S_alloc | apply Kd.S_drewN | apply Kd.S_drew)); exact HO_7.out) hb)
                          have n1_ := Aside0.mk (Kd.R_below (by (with_reducible repeat (first | apply Kd.R_alloc | apply Kd.R_drewN | apply Kd.R_drew)); exact HO_9.out) hb)
                          have n2_ := Aside0.mk (blk_below (g := gb250) (o := .cells #[.int .i64 a0_0, .slice A0_1 l0_1.length c0_1] 24 (0, 0)) (by (with_reducible repeat (first | refine blk_drewN ?_ _ | refine blk_drew ?_ | refine blk_alloc ?_ _)); exact BK250.out) hb)
                          have n3_ := Aside0.mk (below_step (by repeat (first | (with_reducible first | exact HB.out | apply below_alloc | apply pw_below_drewN | apply below_drew1 | refine below_set ?_ GE250.out) | exact HB.out)) hb)
                          clear HO_7
                          clear HO_9
                          clear BK250
                          clear HB
                          have HO_7 := n0_
                          have HO_9 := n1_
                          have BK250 := n2_
                          have HB := n3_
                          clear n0_ n1_ n2_ n3_
                          (try clear hb)
                          (try clear hb2)
                          (try clear hk)
                          (try clear hi)
                          refine hK.out _ _ ⟨(blk_cell BK250.out 0).trans rfl, (blk_cell BK250.out 1).trans rfl, ((HB.out.cell (World.block_lt_of_cell? w _ hw257_0)).trans hw257_0), ((HB.out.cell (World.block_lt_of_cell? w _ hw258_0)).trans hw258_0)⟩ (fun hHeld => ?_)
                          clear hK K
                          refine norm_ (a' := ?_) ?_ ?_
                          rotate_left
                          · show Act.put _ (some 44) _ = _
                            simp only [Act.put, List.setIfInBounds_toArray, List.set_cons_zero, List.set_cons_succ, i64_w, i32_w]
                            rfl
                          refine pure_ (i := 10) (N := some 11) (v := ?_) (a' := ?_) #[true, true, true, true, true, true, true, true, true, true, true] rfl rfl (any_of HT_.out (by kernel_rfl)) (fun _ _ _ h => h) (Or.inl ⟨by rfl, ?_⟩) ?_ ?_
                          rotate_left
                          · intro w'
                            go_simp
                            with_reducible rfl
                          rotate_left
                          · simp only [Act.put, List.setIfInBounds_toArray, List.set_cons_zero, List.set_cons_succ, i64_w, i32_w]
                            rfl
                          refine done_ (done_of HT_.out (by kernel_rfl)) ?_
                          try go_wp2
                          go_ret3
                          exact ⟨_, by first | rfl | (simp [errW_none, errW_some] <;> rfl) | (simp [*, errW_none, errW_some] <;> rfl), by first | exact Kd.S_nil _ _ _ _ _ | exact Kd.N_nil _ _ _ _ _ | exact Kd.V_nil _ _ _ _ _ | exact Kd.Q_nil _ _ _ _ _ | exact Kd.R_nil _ _ _ _ _, by repeat (first | (with_reducible first | exact HB.out | apply below_alloc | apply pw_below_drewN | apply below_drew1 | refine below_set ?_ GE250.out) | exact HB.out)⟩
                        · rw [if_neg c17] at H
                          have c17b0 : decide (t259 < 0) = false := decide_eq_false c17
                          clear c17
                          replace H := Option.bind_eq_some_iff.mp H
                          obtain ⟨t263, A200, H⟩ := H
                          replace H : (if t263 = true then (some (([] : List (List Int)), x8_1, 112)) else (if x9_2.length < 17592186044416 then (tangramref11_Of.l1 k2 l1 x7_1 x8_1 (x9_2 ++ [t259]) (wrap64 (x10_2 + 1)) a0_0 l0_1) else (none))) = some (r1, r2, r3) := H
                          have A20 := Aside0.mk A200
                          clear A200
                          by_cases c21 : t263 = true
                          · subst c21
                            have H1 : (some (([] : List (List Int)), x8_1, 112)) = some (r1, r2, r3) := by rw [if_pos rfl] at H; exact H
                            clear H
                            have H := H1
                            clear H1
                            simp only [Option.some.injEq, Prod.mk.injEq] at H
                            obtain ⟨rfl, rfl, rfl⟩ := H
                            have p252 : 0 ≤ (x8_1 : Int) := of_decide_eq_true (by first | (with_reducible assumption) | assumption)
                            have q252 : x8_1 < (l1.length : Int) := of_decide_eq_true (by first | (with_reducible assumption) | assumption)
                            obtain ⟨ad252, A252_0, c252_0, e252, hx252_0, hl252_0, hi252_0⟩ := at_L4 HR1.out x8_1 p252 q252
                            cases e252
                            replace hx252_0 := (HB.out.cell (World.block_lt_of_cell? w _ hx252_0)).trans hx252_0
                            have HR252_0 := Aside0.mk hi252_0
                            have HC252_0 := Aside0.mk hl252_0
                            clear hi252_0 hl252_0
                            replace p252 := eq_true p252
                            replace q252 := eq_true q252
                            try go_wp2
                            have n0_ := Aside0.mk (Kd.S_drew HO_7.out)
                            have n1_ := Aside0.mk (Kd.R_drew HO_9.out)
                            have n2_ := Aside0.mk (blk_drew BK250.out)
                            have n3_ := Aside0.mk (below_drew1 HB.out)
                            clear HO_7
                            clear HO_9
                            clear BK250
                            clear HB
                            have HO_7 := n0_
                            have HO_9 := n1_
                            have BK250 := n2_
                            have HB := n3_
                            clear n0_ n1_ n2_ n3_
                            have p257 : 0 ≤ (x8_1 : Int) := of_decide_eq_true (by first | (with_reducible assumption) | assumption)
                            have q257 : x8_1 < (l1.length : Int) := of_decide_eq_true (by first | (with_reducible assumption) | assumption)
                            obtain ⟨ad257, A257_0, c257_0, e257, hx257_0, hl257_0, hi257_0⟩ := at_L4 HR1.out x8_1 p257 q257
                            have hw257_0 := hx257_0
                            obtain rfl : ad252 = ad257 := (by injection e257)
                            replace hx257_0 := (HB.out.cell (World.block_lt_of_cell? w _ hx257_0)).trans hx257_0
                            have HR257_0 := Aside0.mk hi257_0
                            have HC257_0 := Aside0.mk hl257_0
                            clear hi257_0 hl257_0
                            replace p257 := eq_true p257
                            replace q257 := eq_true q257
                            have p258 : 0 ≤ (x10_2 : Int) := of_decide_eq_true (by first | (with_reducible assumption) | assumption)
                            have q258 : x10_2 < ((rd_L4 l1 x8_1).length : Int) := of_decide_eq_true (by first | (with_reducible assumption) | assumption)
                            obtain ⟨ad258, e258, hx258_0⟩ := Kd.at_int HR257_0.out x10_2 p258 q258
                            have hw258_0 := hx258_0
                            cases e258
                            replace hx258_0 := (HB.out.cell (World.block_lt_of_cell? w _ hx258_0)).trans hx258_0
                            replace p258 := eq_true p258
                            replace q258 := eq_true q258
                            refine start_ (n := 11) (S := fun w' => w'.cell? ⟨gb250, 0, none⟩ = some (.int .i64 a0_0) ∧ w'.cell? ⟨gb250, 1, none⟩ = some (.slice A0_1 l0_1.length c0_1) ∧ w'.cell? (ad252.add (x8_1).toNat) = some (.slice (some ad258) (rd_L4 l1 x8_1).length c257_0) ∧ w'.cell? (ad258.add (x10_2).toNat) = some (.int .i64 (rd (rd_L4 l1 x8_1) x10_2))) (ds := []) #[false, false, false, false, false, false, false, false, false, false, false] (by kernel_rfl) rfl rfl ⟨(blk_cell BK250.out 0).trans rfl, (blk_cell BK250.out 1).trans rfl, ((HB.out.cell (World.block_lt_of_cell? w _ hw257_0)).trans hw257_0), ((HB.out.cell (World.block_lt_of_cell? w _ hw258_0)).trans hw258_0)⟩ (fun hHeld => ?_); refine with_tabW tangramref11_Of.tab13 tangramref11_Of.bits13 (fun HT_ HW_ => ?_)
                            generalize wr.drew = w22 at HO_7 HO_9 BK250 HB HR257_0 hx257_0 hx258_0 hHeld ⊢
                            refine pure_ (i := 1) (N := some 36) (v := ?_) (a' := ?_) #[false, true, false, false, false, false, false, false, false, false, false] rfl rfl (any_of HT_.out (by kernel_rfl)) (fun _ _ _ h => h) (Or.inl ⟨by rfl, ?_⟩) ?_ ?_
                            rotate_left
                            · intro w'
                              go_simp
                              with_reducible rfl
                            rotate_left
                            · simp only [Act.put, List.setIfInBounds_toArray, List.set_cons_zero, List.set_cons_succ, i64_w, i32_w]
                              rfl
                            refine pure_ (i := 2) (N := some 37) (v := ?_) (a' := ?_) #[false, true, true, false, false, false, false, false, false, false, false] rfl rfl (any_of HT_.out (by kernel_rfl)) (fun _ _ _ h => h) (Or.inl ⟨by rfl, ?_⟩) ?_ ?_
                            rotate_left
                            · intro w'
                              go_simp
                              with_reducible rfl
                            rotate_left
                            · simp only [Act.put, List.setIfInBounds_toArray, List.set_cons_zero, List.set_cons_succ, i64_w, i32_w]
                              rfl
                            refine pure_ (i := 3) (N := some 38) (v := ?_) (a' := ?_) #[false, true, true, true, false, false, false, false, false, false, false] rfl rfl (any_of HT_.out (by kernel_rfl)) (fun _ _ _ h => h) (Or.inl ⟨by rfl, ?_⟩) ?_ ?_
                            rotate_left
                            · intro w'
                              go_simp
                              with_reducible rfl
                            rotate_left
                            · simp only [Act.put, List.setIfInBounds_toArray, List.set_cons_zero, List.set_cons_succ, i64_w, i32_w]
                              rfl
                            refine pure_ (i := 4) (N := some 39) (v := ?_) (a' := ?_) #[false, true, true, true, true, false, false, false, false, false, false] rfl rfl (any_of HT_.out (by kernel_rfl)) (fun _ _ _ h => h) (Or.inl ⟨by rfl, ?_⟩) ?_ ?_
                            rotate_left
                            · intro w'
                              go_simp
                              with_reducible rfl
                            rotate_left
                            · simp only [Act.put, List.setIfInBounds_toArray, List.set_cons_zero, List.set_cons_succ, i64_w, i32_w]
                              rfl
                            refine pure_ (i := 6) (N := some 41) (v := ?_) (a' := ?_) #[false, true, true, true, true, false, true, false, false, false, false] rfl rfl (any_of HT_.out (by kernel_rfl)) (fun _ _ _ h => h) (Or.inl ⟨by rfl, ?_⟩) ?_ ?_
                            rotate_left
                            · intro w'
                              go_simp
                              with_reducible rfl
                            rotate_left
                            · simp only [Act.put, List.setIfInBounds_toArray, List.set_cons_zero, List.set_cons_succ, i64_w, i32_w]
                              rfl
                            refine take_ (i := 0) (N := some 35) (v := ?_) (a' := ?_) #[true, true, true, true, true, false, true, false, false, false, false] rfl rfl (take_ofW HT_.out HW_.out (by kernel_rfl)) (fun _ _ _ h => h) (Or.inl ⟨by rfl, ?_⟩) hHeld ?_ ?_
                            rotate_left
                            · rintro w' ⟨s0, s1, s2, s3⟩
                              go_simp
                              with_reducible rfl
                            rotate_left
                            · simp only [Act.put, List.setIfInBounds_toArray, List.set_cons_zero, List.set_cons_succ, i64_w, i32_w]
                              rfl
                            refine take_ (i := 5) (N := some 40) (v := ?_) (a' := ?_) #[true, true, true, true, true, true, true, false, false, false, false] rfl rfl (take_ofW HT_.out HW_.out (by kernel_rfl)) (fun _ _ _ h => h) (Or.inl ⟨by rfl, ?_⟩) hHeld ?_ ?_
                            rotate_left
                            · rintro w' ⟨s0, s1, s2, s3⟩
                              go_simp
                              with_reducible rfl
                            rotate_left
                            · simp only [Act.put, List.setIfInBounds_toArray, List.set_cons_zero, List.set_cons_succ, i64_w, i32_w]
                              rfl
                            refine pure_ (i := 7) (N := some 42) (v := ?_) (a' := ?_) #[true, true, true, true, true, true, true, true, false, false, false] rfl rfl (any_of HT_.out (by kernel_rfl)) (fun _ _ _ h => h) (Or.inl ⟨by rfl, ?_⟩) ?_ ?_
                            rotate_left
                            · intro w'
                              go_simp
                              with_reducible rfl
                            rotate_left
                            · simp only [Act.put, List.setIfInBounds_toArray, List.set_cons_zero, List.set_cons_succ, i64_w, i32_w]
                              rfl
                            refine take_ (i := 8) (N := some 43) (v := ?_) (a' := ?_) #[true, true, true, true, true, true, true, true, true, false, false] rfl rfl (take_ofW HT_.out HW_.out (by kernel_rfl)) (fun _ _ _ h => h) (Or.inl ⟨by rfl, ?_⟩) hHeld ?_ ?_
                            rotate_left
                            · rintro w' ⟨s0, s1, s2, s3⟩
                              go_simp
                              with_reducible rfl
                            rotate_left
                            · simp only [Act.put, List.setIfInBounds_toArray, List.set_cons_zero, List.set_cons_succ, i64_w, i32_w]
                              rfl
                            refine one_ (i := 9) (N := some 44) #[true, true, true, true, true, true, true, true, true, true, false] rfl rfl (one_of HT_.out (by kernel_rfl)) (by decide) (fun K hK => ?_)
                            refine goes_ Try.func46 (by kernel_rfl) rfl #[.agg #[.int .i64 a0_0, .slice A0_1 l0_1.length c0_1], .int .i64 x8_1, .int .i64 (rd (rd_L4 l1 x8_1) x10_2)] (by rfl) rfl rfl (by (try simp only [List.map_toArray, List.map_cons, List.map_nil]); first | done | rfl | (simp only [List.length_drop, List.length_take]; rfl)) ?_
                            with_reducible refine (tangramref11_Half.calls k2 a0_0 _ _ l0_1 x8_1 (rd (rd_L4 l1 x8_1) x10_2) t259 _ ?side1 ?side2 A16.out).mono ?_
                            (case side1 => repeat (first | exact (Kd.C_below HR0_1.out HB.out) | (with_reducible refine Kd.C_alloc ?_ _) | (with_reducible refine Kd.C_drewN ?_ _) | (with_reducible refine Kd.C_drew ?_)))
                            (case side2 => exact HC0_1.out)
                            rintro e w23 ⟨rfl, hb⟩
                            refine ⟨_, rfl, ?_⟩
                            have n0_ := Aside0.mk (Kd.S_below (by (with_reducible repeat (first | apply Kd.S_alloc | apply Kd.S_drewN | apply Kd.S_drew)); exact HO_7.out) hb)
                            have n1_ := Aside0.mk (Kd.R_below (by (with_reducible repeat (first | apply Kd.R_alloc | apply Kd.R_drewN | apply Kd.R_drew)); exact HO_9.out) hb)
                            have n2_ := Aside0.mk (blk_below (g := gb250) (o := .cells #[.int .i64 a0_0, .slice A0_1 l0_1.length c0_1] 24 (0, 0)) (by (with_reducible repeat (first | refine blk_drewN ?_ _ | refine blk_drew ?_ | refine blk_alloc ?_ _)); exact BK250.out) hb)
                            have n3_ := Aside0.mk (below_step (by repeat (first | (with_reducible first | exact HB.out | apply below_alloc | apply pw_below_drewN | apply below_drew1 | refine below_set ?_ GE250.out) | exact HB.out)) hb)
                            clear HO_7
                            clear HO_9
                            clear BK250
                            clear HB
                            have HO_7 := n0_
                            have HO_9 := n1_
                            have BK250 := n2_
                            have HB := n3_
                            clear n0_ n1_ n2_ n3_
                            (try clear hb)
                            (try clear hb2)
                            (try clear hk)
                            (try clear hi)
                            refine hK.out _ _ ⟨(blk_cell BK250.out 0).trans rfl, (blk_cell BK250.out 1).trans rfl, ((HB.out.cell (World.block_lt_of_cell? w _ hw257_0)).trans hw257_0), ((HB.out.cell (World.block_lt_of_cell? w _ hw258_0)).trans hw258_0)⟩ (fun hHeld => ?_)
                            clear hK K
                            refine norm_ (a' := ?_) ?_ ?_
                            rotate_left
                            · show Act.put _ (some 44) _ = _
                              simp only [Act.put, List.setIfInBounds_toArray, List.set_cons_zero, List.set_cons_succ, i64_w, i32_w]
                              rfl
                            refine pure_ (i := 10) (N := some 11) (v := ?_) (a' := ?_) #[true, true, true, true, true, true, true, true, true, true, true] rfl rfl (any_of HT_.out (by kernel_rfl)) (fun _ _ _ h => h) (Or.inl ⟨by rfl, ?_⟩) ?_ ?_
                            rotate_left
                            · intro w'
                              go_simp
                              with_reducible rfl
                            rotate_left
                            · simp only [Act.put, List.setIfInBounds_toArray, List.set_cons_zero, List.set_cons_succ, i64_w, i32_w]
                              rfl
                            refine done_ (done_of HT_.out (by kernel_rfl)) ?_
                            try go_wp2
                            have n0_ := Aside0.mk (Kd.S_drew HO_7.out)
                            have n1_ := Aside0.mk (Kd.R_drew HO_9.out)
                            have n2_ := Aside0.mk (blk_drew BK250.out)
                            have n3_ := Aside0.mk (below_drew1 HB.out)
                            clear HO_7
                            clear HO_9
                            clear BK250
                            clear HB
                            have HO_7 := n0_
                            have HO_9 := n1_
                            have BK250 := n2_
                            have HB := n3_
                            clear n0_ n1_ n2_ n3_
                            have p260 : 0 ≤ (x8_1 : Int) := of_decide_eq_true (by first | (with_reducible assumption) | assumption)
                            have q260 : x8_1 < (l1.length : Int) := of_decide_eq_true (by first | (with_reducible assumption) | assumption)
                            obtain ⟨ad260, A260_0, c260_0, e260, hx260_0, hl260_0, hi260_0⟩ := at_L4 HR1.out x8_1 p260 q260
                            have hw260_0 := hx260_0
                            obtain rfl : ad252 = ad260 := (by injection e260)
                            replace hx260_0 := (HB.out.cell (World.block_lt_of_cell? w _ hx260_0)).trans hx260_0
                            have HR260_0 := Aside0.mk hi260_0
                            have HC260_0 := Aside0.mk hl260_0
                            clear hi260_0 hl260_0
                            replace p260 := eq_true p260
                            replace q260 := eq_true q260
                            have p261 : 0 ≤ (x8_1 : Int) := of_decide_eq_true (by first | (with_reducible assumption) | assumption)
                            have q261 : x8_1 < (l1.length : Int) := of_decide_eq_true (by first | (with_reducible assumption) | assumption)
                            obtain ⟨ad261, A261_0, c261_0, e261, hx261_0, hl261_0, hi261_0⟩ := at_L4 HR1.out x8_1 p261 q261
                            have hw261_0 := hx261_0
                            obtain rfl : ad252 = ad261 := (by injection e261)
                            replace hx261_0 := (HB.out.cell (World.block_lt_of_cell? w _ hx261_0)).trans hx261_0
                            have HR261_0 := Aside0.mk hi261_0
                            have HC261_0 := Aside0.mk hl261_0
                            clear hi261_0 hl261_0
                            replace p261 := eq_true p261
                            replace q261 := eq_true q261
                            have ea_ := Option.some.inj (hx260_0.symm.trans hx261_0)
                            injection ea_ with ea_ en_ ec_
                            subst ea_
                            subst ec_
                            clear en_
                            have p262 : 0 ≤ (x10_2 : Int) := of_decide_eq_true (by first | (with_reducible assumption) | assumption)
                            have q262 : x10_2 < ((rd_L4 l1 x8_1).length : Int) := of_decide_eq_true (by first | (with_reducible assumption) | assumption)
                            obtain ⟨ad262, e262, hx262_0⟩ := Kd.at_int HR261_0.out x10_2 p262 q262
                            have hw262_0 := hx262_0
                            cases e262
                            replace hx262_0 := (HB.out.cell (World.block_lt_of_cell? w _ hx262_0)).trans hx262_0
                            replace p262 := eq_true p262
                            replace q262 := eq_true q262
                            refine start_ (n := 13) (S := fun w' => w'.cell? (ad252.add (x8_1).toNat) = some (.slice (some ad262) (rd_L4 l1 x8_1).length c260_0) ∧ w'.cell? (ad252.add (x8_1).toNat) = some (.slice (some ad262) (rd_L4 l1 x8_1).length c260_0) ∧ w'.cell? (ad262.add (x10_2).toNat) = some (.int .i64 (rd (rd_L4 l1 x8_1) x10_2))) (ds := []) #[false, false, false, false, false, false, false, false, false, false, false, false, false] (by kernel_rfl) rfl rfl ⟨((HB.out.cell (World.block_lt_of_cell? w _ hw260_0)).trans hw260_0), ((HB.out.cell (World.block_lt_of_cell? w _ hw261_0)).trans hw261_0), ((HB.out.cell (World.block_lt_of_cell? w _ hw262_0)).trans hw262_0)⟩ (fun hHeld => ?_); refine with_tabW tangramref11_Of.tab16 tangramref11_Of.bits16 (fun HT_ HW_ => ?_)
                            generalize w23.drew = w24 at HO_7 HO_9 BK250 HB HR260_0 HR261_0 hx260_0 hx261_0 hx262_0 hHeld ⊢
                            refine pure_ (i := 0) (N := some 48) (v := ?_) (a' := ?_) #[true, false, false, false, false, false, false, false, false, false, false, false, false] rfl rfl (any_of HT_.out (by kernel_rfl)) (fun _ _ _ h => h) (Or.inl ⟨by rfl, ?_⟩) ?_ ?_
                            rotate_left
                            · intro w'
                              go_simp
                              with_reducible rfl
                            rotate_left
                            · simp only [Act.put, List.setIfInBounds_toArray, List.set_cons_zero, List.set_cons_succ, i64_w, i32_w]
                              rfl
                            refine pure_ (i := 1) (N := some 49) (v := ?_) (a' := ?_) #[true, true, false, false, false, false, false, false, false, false, false, false, false] rfl rfl (any_of HT_.out (by kernel_rfl)) (fun _ _ _ h => h) (Or.inl ⟨by rfl, ?_⟩) ?_ ?_
                            rotate_left
                            · intro w'
                              go_simp
                              with_reducible rfl
                            rotate_left
                            · simp only [Act.put, List.setIfInBounds_toArray, List.set_cons_zero, List.set_cons_succ, i64_w, i32_w]
                              rfl
                            refine pure_ (i := 2) (N := some 50) (v := ?_) (a' := ?_) #[true, true, true, false, false, false, false, false, false, false, false, false, false] rfl rfl (any_of HT_.out (by kernel_rfl)) (fun _ _ _ h => h) (Or.inl ⟨by rfl, ?_⟩) ?_ ?_
                            rotate_left
                            · intro w'
                              go_simp
                              with_reducible rfl
                            rotate_left
                            · simp only [Act.put, List.setIfInBounds_toArray, List.set_cons_zero, List.set_cons_succ, i64_w, i32_w]
                              rfl
                            refine pure_ (i := 4) (N := some 52) (v := ?_) (a' := ?_) #[true, true, true, false, true, false, false, false, false, false, false, false, false] rfl rfl (any_of HT_.out (by kernel_rfl)) (fun _ _ _ h => h) (Or.inl ⟨by rfl, ?_⟩) ?_ ?_
                            rotate_left
                            · intro w'
                              go_simp
                              with_reducible rfl
                            rotate_left
                            · simp only [Act.put, List.setIfInBounds_toArray, List.set_cons_zero, List.set_cons_succ, i64_w, i32_w]
                              rfl
                            refine pure_ (i := 5) (N := some 53) (v := ?_) (a' := ?_) #[true, true, true, false, true, true, false, false, false, false, false, false, false] rfl rfl (any_of HT_.out (by kernel_rfl)) (fun _ _ _ h => h) (Or.inl ⟨by rfl, ?_⟩) ?_ ?_
                            rotate_left
                            · intro w'
                              go_simp
                              with_reducible rfl
                            rotate_left
                            · simp only [Act.put, List.setIfInBounds_toArray, List.set_cons_zero, List.set_cons_succ, i64_w, i32_w]
                              rfl
                            refine pure_ (i := 6) (N := some 54) (v := ?_) (a' := ?_) #[true, true, true, false, true, true, true, false, false, false, false, false, false] rfl rfl (any_of HT_.out (by kernel_rfl)) (fun _ _ _ h => h) (Or.inl ⟨by rfl, ?_⟩) ?_ ?_
                            rotate_left
                            · intro w'
                              go_simp
                              with_reducible rfl
                            rotate_left
                            · simp only [Act.put, List.setIfInBounds_toArray, List.set_cons_zero, List.set_cons_succ, i64_w, i32_w]
                              rfl
                            refine pure_ (i := 7) (N := some 55) (v := ?_) (a' := ?_) #[true, true, true, false, true, true, true, true, false, false, false, false, false] rfl rfl (any_of HT_.out (by kernel_rfl)) (fun _ _ _ h => h) (Or.inl ⟨by rfl, ?_⟩) ?_ ?_
                            rotate_left
                            · intro w'
                              go_simp
                              with_reducible rfl
                            rotate_left
                            · simp only [Act.put, List.setIfInBounds_toArray, List.set_cons_zero, List.set_cons_succ, i64_w, i32_w]
                              rfl
                            refine pure_ (i := 9) (N := some 57) (v := ?_) (a' := ?_) #[true, true, true, false, true, true, true, true, false, true, false, false, false] rfl rfl (any_of HT_.out (by kernel_rfl)) (fun _ _ _ h => h) (Or.inl ⟨by rfl, ?_⟩) ?_ ?_
                            rotate_left
                            · intro w'
                              go_simp
                              with_reducible rfl
                            rotate_left
                            · simp only [Act.put, List.setIfInBounds_toArray, List.set_cons_zero, List.set_cons_succ, i64_w, i32_w]
                              rfl
                            refine take_ (i := 3) (N := some 51) (v := ?_) (a' := ?_) #[true, true, true, true, true, true, true, true, false, true, false, false, false] rfl rfl (take_ofW HT_.out HW_.out (by kernel_rfl)) (fun _ _ _ h => h) (Or.inl ⟨by rfl, ?_⟩) hHeld ?_ ?_
                            rotate_left
                            · rintro w' ⟨s0, s1, s2⟩
                              go_simp
                              with_reducible rfl
                            rotate_left
                            · simp only [Act.put, List.setIfInBounds_toArray, List.set_cons_zero, List.set_cons_succ, i64_w, i32_w]
                              rfl
                            refine take_ (i := 8) (N := some 56) (v := ?_) (a' := ?_) #[true, true, true, true, true, true, true, true, true, true, false, false, false] rfl rfl (take_ofW HT_.out HW_.out (by kernel_rfl)) (fun _ _ _ h => h) (Or.inl ⟨by rfl, ?_⟩) hHeld ?_ ?_
                            rotate_left
                            · rintro w' ⟨s0, s1, s2⟩
                              go_simp
                              with_reducible rfl
                            rotate_left
                            · simp only [Act.put, List.setIfInBounds_toArray, List.set_cons_zero, List.set_cons_succ, i64_w, i32_w]
                              rfl
                            refine pure_ (i := 10) (N := some 58) (v := ?_) (a' := ?_) #[true, true, true, true, true, true, true, true, true, true, true, false, false] rfl rfl (any_of HT_.out (by kernel_rfl)) (fun _ _ _ h => h) (Or.inl ⟨by rfl, ?_⟩) ?_ ?_
                            rotate_left
                            · intro w'
                              go_simp
                              with_reducible rfl
                            rotate_left
                            · simp only [Act.put, List.setIfInBounds_toArray, List.set_cons_zero, List.set_cons_succ, i64_w, i32_w]
                              rfl
                            refine take_ (i := 11) (N := some 59) (v := ?_) (a' := ?_) #[true, true, true, true, true, true, true, true, true, true, true, true, false] rfl rfl (take_ofW HT_.out HW_.out (by kernel_rfl)) (fun _ _ _ h => h) (Or.inl ⟨by rfl, ?_⟩) hHeld ?_ ?_
                            rotate_left
                            · rintro w' ⟨s0, s1, s2⟩
                              go_simp
                              with_reducible rfl
                            rotate_left
                            · simp only [Act.put, List.setIfInBounds_toArray, List.set_cons_zero, List.set_cons_succ, i64_w, i32_w]
                              rfl
                            refine one_ (i := 12) (N := some 60) #[true, true, true, true, true, true, true, true, true, true, true, true, true] rfl rfl (one_of HT_.out (by kernel_rfl)) (by decide) (fun K hK => ?_)
                            refine goes_ Try.func38 (by kernel_rfl) rfl #[.slice (some ad262) (rd_L4 l1 x8_1).length c260_0, .int .i64 x10_2, .int .i64 (rd (rd_L4 l1 x8_1) x10_2)] (by rfl) rfl rfl (by (try simp only [List.map_toArray, List.map_cons, List.map_nil]); first | done | rfl | (simp only [List.length_drop, List.length_take]; rfl)) ?_
                            with_reducible refine (tangramref11_stands.calls k2 _ _ (rd_L4 l1 x8_1) x10_2 (rd (rd_L4 l1 x8_1) x10_2) true _ ?side1 ?side2 A20.out).mono ?_
                            (case side1 => repeat (first | exact (Kd.C_below HR260_0.out HB.out) | (with_reducible refine Kd.C_alloc ?_ _) | (with_reducible refine Kd.C_drewN ?_ _) | (with_reducible refine Kd.C_drew ?_)))
                            (case side2 => exact HC260_0.out)
                            rintro e w' ⟨rfl, ⟨nd, rfl⟩⟩
                            refine ⟨_, rfl, ?_⟩
                            refine hK.out _ _ ⟨((HB.out.cell (World.block_lt_of_cell? w _ hw260_0)).trans hw260_0), ((HB.out.cell (World.block_lt_of_cell? w _ hw261_0)).trans hw261_0), ((HB.out.cell (World.block_lt_of_cell? w _ hw262_0)).trans hw262_0)⟩ (fun hHeld => ?_)
                            clear hK K
                            refine norm_ (a' := ?_) ?_ ?_
                            rotate_left
                            · show Act.put _ (some 60) _ = _
                              simp only [Act.put, List.setIfInBounds_toArray, List.set_cons_zero, List.set_cons_succ, i64_w, i32_w]
                              rfl
                            refine done_ (done_of HT_.out (by kernel_rfl)) ?_
                            try go_wp2
                            go_ret3
                            exact ⟨_, by first | rfl | (simp [errW_none, errW_some] <;> rfl) | (simp [*, errW_none, errW_some] <;> rfl), by first | exact Kd.S_nil _ _ _ _ _ | exact Kd.N_nil _ _ _ _ _ | exact Kd.V_nil _ _ _ _ _ | exact Kd.Q_nil _ _ _ _ _ | exact Kd.R_nil _ _ _ _ _, by repeat (first | (with_reducible first | exact HB.out | apply below_alloc | apply pw_below_drewN | apply below_drew1 | refine below_set ?_ GE250.out) | exact HB.out)⟩
                          · replace c21 := Bool.eq_false_iff.mpr c21
                            subst c21
                            have H1 : (if x9_2.length < 17592186044416 then (tangramref11_Of.l1 k2 l1 x7_1 x8_1 (x9_2 ++ [t259]) (wrap64 (x10_2 + 1)) a0_0 l0_1) else (none)) = some (r1, r2, r3) := by rw [if_neg (show ¬ (false = true) by decide)] at H; exact H
                            clear H
                            have H := H1
                            clear H1
                            by_cases c25 : x9_2.length < 17592186044416
                            · rw [if_pos c25] at H
                              have LMc25 := Aside0.mk c25
                              clear c25
                              obtain ⟨y264, hy264⟩ : ∃ y_ : List Int, y_ = (x9_2 ++ [t259]) := ⟨_, rfl⟩
                              replace H : (tangramref11_Of.l1 k2 l1 x7_1 x8_1 y264 (wrap64 (x10_2 + 1)) a0_0 l0_1) = some (r1, r2, r3) := by first | (rw [hy264]; with_reducible exact H) | (have H2_ := (Option.bind_some _ _).symm.trans H; rw [hy264]; with_reducible exact H2_) | (have H2_ := (Option.bind_some _ _).symm.trans H; with_reducible exact H2_) | with_reducible exact H | (rw [hy264]; exact H) | exact H
                              have Ny264 := Aside0.mk hy264
                              clear hy264
                              have H' := Aside0.mk H
                              clear H
                              have p252 : 0 ≤ (x8_1 : Int) := of_decide_eq_true (by first | (with_reducible assumption) | assumption)
                              have q252 : x8_1 < (l1.length : Int) := of_decide_eq_true (by first | (with_reducible assumption) | assumption)
                              obtain ⟨ad252, A252_0, c252_0, e252, hx252_0, hl252_0, hi252_0⟩ := at_L4 HR1.out x8_1 p252 q252
                              cases e252
                              replace hx252_0 := (HB.out.cell (World.block_lt_of_cell? w _ hx252_0)).trans hx252_0
                              have HR252_0 := Aside0.mk hi252_0
                              have HC252_0 := Aside0.mk hl252_0
                              clear hi252_0 hl252_0
                              replace p252 := eq_true p252
                              replace q252 := eq_true q252
                              try go_wp2
                              have n0_ := Aside0.mk (Kd.S_drew HO_7.out)
                              have n1_ := Aside0.mk (Kd.R_drew HO_9.out)
                              have n2_ := Aside0.mk (blk_drew BK250.out)
                              have n3_ := Aside0.mk (below_drew1 HB.out)
                              clear HO_7
                              clear HO_9
                              clear BK250
                              clear HB
                              have HO_7 := n0_
                              have HO_9 := n1_
                              have BK250 := n2_
                              have HB := n3_
                              clear n0_ n1_ n2_ n3_
                              have p257 : 0 ≤ (x8_1 : Int) := of_decide_eq_true (by first | (with_reducible assumption) | assumption)
                              have q257 : x8_1 < (l1.length : Int) := of_decide_eq_true (by first | (with_reducible assumption) | assumption)
                              obtain ⟨ad257, A257_0, c257_0, e257, hx257_0, hl257_0, hi257_0⟩ := at_L4 HR1.out x8_1 p257 q257
                              have hw257_0 := hx257_0
                              obtain rfl : ad252 = ad257 := (by injection e257)
                              replace hx257_0 := (HB.out.cell (World.block_lt_of_cell? w _ hx257_0)).trans hx257_0
                              have HR257_0 := Aside0.mk hi257_0
                              have HC257_0 := Aside0.mk hl257_0
                              clear hi257_0 hl257_0
                              replace p257 := eq_true p257
                              replace q257 := eq_true q257
                              have p258 : 0 ≤ (x10_2 : Int) := of_decide_eq_true (by first | (with_reducible assumption) | assumption)
                              have q258 : x10_2 < ((rd_L4 l1 x8_1).length : Int) := of_decide_eq_true (by first | (with_reducible assumption) | assumption)
                              obtain ⟨ad258, e258, hx258_0⟩ := Kd.at_int HR257_0.out x10_2 p258 q258
                              have hw258_0 := hx258_0
                              cases e258
                              replace hx258_0 := (HB.out.cell (World.block_lt_of_cell? w _ hx258_0)).trans hx258_0
                              replace p258 := eq_true p258
                              replace q258 := eq_true q258
                              refine start_ (n := 11) (S := fun w' => w'.cell? ⟨gb250, 0, none⟩ = some (.int .i64 a0_0) ∧ w'.cell? ⟨gb250, 1, none⟩ = some (.slice A0_1 l0_1.length c0_1) ∧ w'.cell? (ad252.add (x8_1).toNat) = some (.slice (some ad258) (rd_L4 l1 x8_1).length c257_0) ∧ w'.cell? (ad258.add (x10_2).toNat) = some (.int .i64 (rd (rd_L4 l1 x8_1) x10_2))) (ds := []) #[false, false, false, false, false, false, false, false, false, false, false] (by kernel_rfl) rfl rfl ⟨(blk_cell BK250.out 0).trans rfl, (blk_cell BK250.out 1).trans rfl, ((HB.out.cell (World.block_lt_of_cell? w _ hw257_0)).trans hw257_0), ((HB.out.cell (World.block_lt_of_cell? w _ hw258_0)).trans hw258_0)⟩ (fun hHeld => ?_); refine with_tabW tangramref11_Of.tab13 tangramref11_Of.bits13 (fun HT_ HW_ => ?_)
                              generalize wr.drew = w26 at HO_7 HO_9 BK250 HB HR257_0 hx257_0 hx258_0 hHeld ⊢
                              refine pure_ (i := 1) (N := some 36) (v := ?_) (a' := ?_) #[false, true, false, false, false, false, false, false, false, false, false] rfl rfl (any_of HT_.out (by kernel_rfl)) (fun _ _ _ h => h) (Or.inl ⟨by rfl, ?_⟩) ?_ ?_
                              rotate_left
                              · intro w'
                                go_simp
                                with_reducible rfl
                              rotate_left
                              · simp only [Act.put, List.setIfInBounds_toArray, List.set_cons_zero, List.set_cons_succ, i64_w, i32_w]
                                rfl
                              refine pure_ (i := 2) (N := some 37) (v := ?_) (a' := ?_) #[false, true, true, false, false, false, false, false, false, false, false] rfl rfl (any_of HT_.out (by kernel_rfl)) (fun _ _ _ h => h) (Or.inl ⟨by rfl, ?_⟩) ?_ ?_
                              rotate_left
                              · intro w'
                                go_simp
                                with_reducible rfl
                              rotate_left
                              · simp only [Act.put, List.setIfInBounds_toArray, List.set_cons_zero, List.set_cons_succ, i64_w, i32_w]
                                rfl
                              refine pure_ (i := 3) (N := some 38) (v := ?_) (a' := ?_) #[false, true, true, true, false, false, false, false, false, false, false] rfl rfl (any_of HT_.out (by kernel_rfl)) (fun _ _ _ h => h) (Or.inl ⟨by rfl, ?_⟩) ?_ ?_
                              rotate_left
                              · intro w'
                                go_simp
                                with_reducible rfl
                              rotate_left
                              · simp only [Act.put, List.setIfInBounds_toArray, List.set_cons_zero, List.set_cons_succ, i64_w, i32_w]
                                rfl
                              refine pure_ (i := 4) (N := some 39) (v := ?_) (a' := ?_) #[false, true, true, true, true, false, false, false, false, false, false] rfl rfl (any_of HT_.out (by kernel_rfl)) (fun _ _ _ h => h) (Or.inl ⟨by rfl, ?_⟩) ?_ ?_
                              rotate_left
                              · intro w'
                                go_simp
                                with_reducible rfl
                              rotate_left
                              · simp only [Act.put, List.setIfInBounds_toArray, List.set_cons_zero, List.set_cons_succ, i64_w, i32_w]
                                rfl
                              refine pure_ (i := 6) (N := some 41) (v := ?_) (a' := ?_) #[false, true, true, true, true, false, true, false, false, false, false] rfl rfl (any_of HT_.out (by kernel_rfl)) (fun _ _ _ h => h) (Or.inl ⟨by rfl, ?_⟩) ?_ ?_
                              rotate_left
                              · intro w'
                                go_simp
                                with_reducible rfl
                              rotate_left
                              · simp only [Act.put, List.setIfInBounds_toArray, List.set_cons_zero, List.set_cons_succ, i64_w, i32_w]
                                rfl
                              refine take_ (i := 0) (N := some 35) (v := ?_) (a' := ?_) #[true, true, true, true, true, false, true, false, false, false, false] rfl rfl (take_ofW HT_.out HW_.out (by kernel_rfl)) (fun _ _ _ h => h) (Or.inl ⟨by rfl, ?_⟩) hHeld ?_ ?_
                              rotate_left
                              · rintro w' ⟨s0, s1, s2, s3⟩
                                go_simp
                                with_reducible rfl
                              rotate_left
                              · simp only [Act.put, List.setIfInBounds_toArray, List.set_cons_zero, List.set_cons_succ, i64_w, i32_w]
                                rfl
                              refine take_ (i := 5) (N := some 40) (v := ?_) (a' := ?_) #[true, true, true, true, true, true, true, false, false, false, false] rfl rfl (take_ofW HT_.out HW_.out (by kernel_rfl)) (fun _ _ _ h => h) (Or.inl ⟨by rfl, ?_⟩) hHeld ?_ ?_
                              rotate_left
                              · rintro w' ⟨s0, s1, s2, s3⟩
                                go_simp
                                with_reducible rfl
                              rotate_left
                              · simp only [Act.put, List.setIfInBounds_toArray, List.set_cons_zero, List.set_cons_succ, i64_w, i32_w]
                                rfl
                              refine pure_ (i := 7) (N := some 42) (v := ?_) (a' := ?_) #[true, true, true, true, true, true, true, true, false, false, false] rfl rfl (any_of HT_.out (by kernel_rfl)) (fun _ _ _ h => h) (Or.inl ⟨by rfl, ?_⟩) ?_ ?_
                              rotate_left
                              · intro w'
                                go_simp
                                with_reducible rfl
                              rotate_left
                              · simp only [Act.put, List.setIfInBounds_toArray, List.set_cons_zero, List.set_cons_succ, i64_w, i32_w]
                                rfl
                              refine take_ (i := 8) (N := some 43) (v := ?_) (a' := ?_) #[true, true, true, true, true, true, true, true, true, false, false] rfl rfl (take_ofW HT_.out HW_.out (by kernel_rfl)) (fun _ _ _ h => h) (Or.inl ⟨by rfl, ?_⟩) hHeld ?_ ?_
                              rotate_left
                              · rintro w' ⟨s0, s1, s2, s3⟩
                                go_simp
                                with_reducible rfl
                              rotate_left
                              · simp only [Act.put, List.setIfInBounds_toArray, List.set_cons_zero, List.set_cons_succ, i64_w, i32_w]
                                rfl
                              refine one_ (i := 9) (N := some 44) #[true, true, true, true, true, true, true, true, true, true, false] rfl rfl (one_of HT_.out (by kernel_rfl)) (by decide) (fun K hK => ?_)
                              refine goes_ Try.func46 (by kernel_rfl) rfl #[.agg #[.int .i64 a0_0, .slice A0_1 l0_1.length c0_1], .int .i64 x8_1, .int .i64 (rd (rd_L4 l1 x8_1) x10_2)] (by rfl) rfl rfl (by (try simp only [List.map_toArray, List.map_cons, List.map_nil]); first | done | rfl | (simp only [List.length_drop, List.length_take]; rfl)) ?_
                              with_reducible refine (tangramref11_Half.calls k2 a0_0 _ _ l0_1 x8_1 (rd (rd_L4 l1 x8_1) x10_2) t259 _ ?side1 ?side2 A16.out).mono ?_
                              (case side1 => repeat (first | exact (Kd.C_below HR0_1.out HB.out) | (with_reducible refine Kd.C_alloc ?_ _) | (with_reducible refine Kd.C_drewN ?_ _) | (with_reducible refine Kd.C_drew ?_)))
                              (case side2 => exact HC0_1.out)
                              rintro e w27 ⟨rfl, hb⟩
                              refine ⟨_, rfl, ?_⟩
                              have n0_ := Aside0.mk (Kd.S_below (by (with_reducible repeat (first | apply Kd.S_alloc | apply Kd.S_drewN | apply Kd.S_drew)); exact HO_7.out) hb)
                              have n1_ := Aside0.mk (Kd.R_below (by (with_reducible repeat (first | apply Kd.R_alloc | apply Kd.R_drewN | apply Kd.R_drew)); exact HO_9.out) hb)
                              have n2_ := Aside0.mk (blk_below (g := gb250) (o := .cells #[.int .i64 a0_0, .slice A0_1 l0_1.length c0_1] 24 (0, 0)) (by (with_reducible repeat (first | refine blk_drewN ?_ _ | refine blk_drew ?_ | refine blk_alloc ?_ _)); exact BK250.out) hb)
                              have n3_ := Aside0.mk (below_step (by repeat (first | (with_reducible first | exact HB.out | apply below_alloc | apply pw_below_drewN | apply below_drew1 | refine below_set ?_ GE250.out) | exact HB.out)) hb)
                              clear HO_7
                              clear HO_9
                              clear BK250
                              clear HB
                              have HO_7 := n0_
                              have HO_9 := n1_
                              have BK250 := n2_
                              have HB := n3_
                              clear n0_ n1_ n2_ n3_
                              (try clear hb)
                              (try clear hb2)
                              (try clear hk)
                              (try clear hi)
                              refine hK.out _ _ ⟨(blk_cell BK250.out 0).trans rfl, (blk_cell BK250.out 1).trans rfl, ((HB.out.cell (World.block_lt_of_cell? w _ hw257_0)).trans hw257_0), ((HB.out.cell (World.block_lt_of_cell? w _ hw258_0)).trans hw258_0)⟩ (fun hHeld => ?_)
                              clear hK K
                              refine norm_ (a' := ?_) ?_ ?_
                              rotate_left
                              · show Act.put _ (some 44) _ = _
                                simp only [Act.put, List.setIfInBounds_toArray, List.set_cons_zero, List.set_cons_succ, i64_w, i32_w]
                                rfl
                              refine pure_ (i := 10) (N := some 11) (v := ?_) (a' := ?_) #[true, true, true, true, true, true, true, true, true, true, true] rfl rfl (any_of HT_.out (by kernel_rfl)) (fun _ _ _ h => h) (Or.inl ⟨by rfl, ?_⟩) ?_ ?_
                              rotate_left
                              · intro w'
                                go_simp
                                with_reducible rfl
                              rotate_left
                              · simp only [Act.put, List.setIfInBounds_toArray, List.set_cons_zero, List.set_cons_succ, i64_w, i32_w]
                                rfl
                              refine done_ (done_of HT_.out (by kernel_rfl)) ?_
                              try go_wp2
                              have n0_ := Aside0.mk (Kd.S_drew HO_7.out)
                              have n1_ := Aside0.mk (Kd.R_drew HO_9.out)
                              have n2_ := Aside0.mk (blk_drew BK250.out)
                              have n3_ := Aside0.mk (below_drew1 HB.out)
                              clear HO_7
                              clear HO_9
                              clear BK250
                              clear HB
                              have HO_7 := n0_
                              have HO_9 := n1_
                              have BK250 := n2_
                              have HB := n3_
                              clear n0_ n1_ n2_ n3_
                              have p260 : 0 ≤ (x8_1 : Int) := of_decide_eq_true (by first | (with_reducible assumption) | assumption)
                              have q260 : x8_1 < (l1.length : Int) := of_decide_eq_true (by first | (with_reducible assumption) | assumption)
                              obtain ⟨ad260, A260_0, c260_0, e260, hx260_0, hl260_0, hi260_0⟩ := at_L4 HR1.out x8_1 p260 q260
                              have hw260_0 := hx260_0
                              obtain rfl : ad252 = ad260 := (by injection e260)
                              replace hx260_0 := (HB.out.cell (World.block_lt_of_cell? w _ hx260_0)).trans hx260_0
                              have HR260_0 := Aside0.mk hi260_0
                              have HC260_0 := Aside0.mk hl260_0
                              clear hi260_0 hl260_0
                              replace p260 := eq_true p260
                              replace q260 := eq_true q260
                              have p261 : 0 ≤ (x8_1 : Int) := of_decide_eq_true (by first | (with_reducible assumption) | assumption)
                              have q261 : x8_1 < (l1.length : Int) := of_decide_eq_true (by first | (with_reducible assumption) | assumption)
                              obtain ⟨ad261, A261_0, c261_0, e261, hx261_0, hl261_0, hi261_0⟩ := at_L4 HR1.out x8_1 p261 q261
                              have hw261_0 := hx261_0
                              obtain rfl : ad252 = ad261 := (by injection e261)
                              replace hx261_0 := (HB.out.cell (World.block_lt_of_cell? w _ hx261_0)).trans hx261_0
                              have HR261_0 := Aside0.mk hi261_0
                              have HC261_0 := Aside0.mk hl261_0
                              clear hi261_0 hl261_0
                              replace p261 := eq_true p261
                              replace q261 := eq_true q261
                              have ea_ := Option.some.inj (hx260_0.symm.trans hx261_0)
                              injection ea_ with ea_ en_ ec_
                              subst ea_
                              subst ec_
                              clear en_
                              have p262 : 0 ≤ (x10_2 : Int) := of_decide_eq_true (by first | (with_reducible assumption) | assumption)
                              have q262 : x10_2 < ((rd_L4 l1 x8_1).length : Int) := of_decide_eq_true (by first | (with_reducible assumption) | assumption)
                              obtain ⟨ad262, e262, hx262_0⟩ := Kd.at_int HR261_0.out x10_2 p262 q262
                              have hw262_0 := hx262_0
                              cases e262
                              replace hx262_0 := (HB.out.cell (World.block_lt_of_cell? w _ hx262_0)).trans hx262_0
                              replace p262 := eq_true p262
                              replace q262 := eq_true q262
                              refine start_ (n := 13) (S := fun w' => w'.cell? (ad252.add (x8_1).toNat) = some (.slice (some ad262) (rd_L4 l1 x8_1).length c260_0) ∧ w'.cell? (ad252.add (x8_1).toNat) = some (.slice (some ad262) (rd_L4 l1 x8_1).length c260_0) ∧ w'.cell? (ad262.add (x10_2).toNat) = some (.int .i64 (rd (rd_L4 l1 x8_1) x10_2))) (ds := []) #[false, false, false, false, false, false, false, false, false, false, false, false, false] (by kernel_rfl) rfl rfl ⟨((HB.out.cell (World.block_lt_of_cell? w _ hw260_0)).trans hw260_0), ((HB.out.cell (World.block_lt_of_cell? w _ hw261_0)).trans hw261_0), ((HB.out.cell (World.block_lt_of_cell? w _ hw262_0)).trans hw262_0)⟩ (fun hHeld => ?_); refine with_tabW tangramref11_Of.tab16 tangramref11_Of.bits16 (fun HT_ HW_ => ?_)
                              generalize w27.drew = w28 at HO_7 HO_9 BK250 HB HR260_0 HR261_0 hx260_0 hx261_0 hx262_0 hHeld ⊢
                              refine pure_ (i := 0) (N := some 48) (v := ?_) (a' := ?_) #[true, false, false, false, false, false, false, false, false, false, false, false, false] rfl rfl (any_of HT_.out (by kernel_rfl)) (fun _ _ _ h => h) (Or.inl ⟨by rfl, ?_⟩) ?_ ?_
                              rotate_left
                              · intro w'
                                go_simp
                                with_reducible rfl
                              rotate_left
                              · simp only [Act.put, List.setIfInBounds_toArray, List.set_cons_zero, List.set_cons_succ, i64_w, i32_w]
                                rfl
                              refine pure_ (i := 1) (N := some 49) (v := ?_) (a' := ?_) #[true, true, false, false, false, false, false, false, false, false, false, false, false] rfl rfl (any_of HT_.out (by kernel_rfl)) (fun _ _ _ h => h) (Or.inl ⟨by rfl, ?_⟩) ?_ ?_
                              rotate_left
                              · intro w'
                                go_simp
                                with_reducible rfl
                              rotate_left
                              · simp only [Act.put, List.setIfInBounds_toArray, List.set_cons_zero, List.set_cons_succ, i64_w, i32_w]
                                rfl
                              refine pure_ (i := 2) (N := some 50) (v := ?_) (a' := ?_) #[true, true, true, false, false, false, false, false, false, false, false, false, false] rfl rfl (any_of HT_.out (by kernel_rfl)) (fun _ _ _ h => h) (Or.inl ⟨by rfl, ?_⟩) ?_ ?_
                              rotate_left
                              · intro w'
                                go_simp
                                with_reducible rfl
                              rotate_left
                              · simp only [Act.put, List.setIfInBounds_toArray, List.set_cons_zero, List.set_cons_succ, i64_w, i32_w]
                                rfl
                              refine pure_ (i := 4) (N := some 52) (v := ?_) (a' := ?_) #[true, true, true, false, true, false, false, false, false, false, false, false, false] rfl rfl (any_of HT_.out (by kernel_rfl)) (fun _ _ _ h => h) (Or.inl ⟨by rfl, ?_⟩) ?_ ?_
                              rotate_left
                              · intro w'
                                go_simp
                                with_reducible rfl
                              rotate_left
                              · simp only [Act.put, List.setIfInBounds_toArray, List.set_cons_zero, List.set_cons_succ, i64_w, i32_w]
                                rfl
                              refine pure_ (i := 5) (N := some 53) (v := ?_) (a' := ?_) #[true, true, true, false, true, true, false, false, false, false, false, false, false] rfl rfl (any_of HT_.out (by kernel_rfl)) (fun _ _ _ h => h) (Or.inl ⟨by rfl, ?_⟩) ?_ ?_
                              rotate_left
                              · intro w'
                                go_simp
                                with_reducible rfl
                              rotate_left
                              · simp only [Act.put, List.setIfInBounds_toArray, List.set_cons_zero, List.set_cons_succ, i64_w, i32_w]
                                rfl
                              refine pure_ (i := 6) (N := some 54) (v := ?_) (a' := ?_) #[true, true, true, false, true, true, true, false, false, false, false, false, false] rfl rfl (any_of HT_.out (by kernel_rfl)) (fun _ _ _ h => h) (Or.inl ⟨by rfl, ?_⟩) ?_ ?_
                              rotate_left
                              · intro w'
                                go_simp
                                with_reducible rfl
                              rotate_left
                              · simp only [Act.put, List.setIfInBounds_toArray, List.set_cons_zero, List.set_cons_succ, i64_w, i32_w]
                                rfl
                              refine pure_ (i := 7) (N := some 55) (v := ?_) (a' := ?_) #[true, true, true, false, true, true, true, true, false, false, false, false, false] rfl rfl (any_of HT_.out (by kernel_rfl)) (fun _ _ _ h => h) (Or.inl ⟨by rfl, ?_⟩) ?_ ?_
                              rotate_left
                              · intro w'
                                go_simp
                                with_reducible rfl
                              rotate_left
                              · simp only [Act.put, List.setIfInBounds_toArray, List.set_cons_zero, List.set_cons_succ, i64_w, i32_w]
                                rfl
                              refine pure_ (i := 9) (N := some 57) (v := ?_) (a' := ?_) #[true, true, true, false, true, true, true, true, false, true, false, false, false] rfl rfl (any_of HT_.out (by kernel_rfl)) (fun _ _ _ h => h) (Or.inl ⟨by rfl, ?_⟩) ?_ ?_
                              rotate_left
                              · intro w'
                                go_simp
                                with_reducible rfl
                              rotate_left
                              · simp only [Act.put, List.setIfInBounds_toArray, List.set_cons_zero, List.set_cons_succ, i64_w, i32_w]
                                rfl
                              refine take_ (i := 3) (N := some 51) (v := ?_) (a' := ?_) #[true, true, true, true, true, true, true, true, false, true, false, false, false] rfl rfl (take_ofW HT_.out HW_.out (by kernel_rfl)) (fun _ _ _ h => h) (Or.inl ⟨by rfl, ?_⟩) hHeld ?_ ?_
                              rotate_left
                              · rintro w' ⟨s0, s1, s2⟩
                                go_simp
                                with_reducible rfl
                              rotate_left
                              · simp only [Act.put, List.setIfInBounds_toArray, List.set_cons_zero, List.set_cons_succ, i64_w, i32_w]
                                rfl
                              refine take_ (i := 8) (N := some 56) (v := ?_) (a' := ?_) #[true, true, true, true, true, true, true, true, true, true, false, false, false] rfl rfl (take_ofW HT_.out HW_.out (by kernel_rfl)) (fun _ _ _ h => h) (Or.inl ⟨by rfl, ?_⟩) hHeld ?_ ?_
                              rotate_left
                              · rintro w' ⟨s0, s1, s2⟩
                                go_simp
                                with_reducible rfl
                              rotate_left
                              · simp only [Act.put, List.setIfInBounds_toArray, List.set_cons_zero, List.set_cons_succ, i64_w, i32_w]
                                rfl
                              refine pure_ (i := 10) (N := some 58) (v := ?_) (a' := ?_) #[true, true, true, true, true, true, true, true, true, true, true, false, false] rfl rfl (any_of HT_.out (by kernel_rfl)) (fun _ _ _ h => h) (Or.inl ⟨by rfl, ?_⟩) ?_ ?_
                              rotate_left
                              · intro w'
                                go_simp
                                with_reducible rfl
                              rotate_left
                              · simp only [Act.put, List.setIfInBounds_toArray, List.set_cons_zero, List.set_cons_succ, i64_w, i32_w]
                                rfl
                              refine take_ (i := 11) (N := some 59) (v := ?_) (a' := ?_) #[true, true, true, true, true, true, true, true, true, true, true, true, false] rfl rfl (take_ofW HT_.out HW_.out (by kernel_rfl)) (fun _ _ _ h => h) (Or.inl ⟨by rfl, ?_⟩) hHeld ?_ ?_
                              rotate_left
                              · rintro w' ⟨s0, s1, s2⟩
                                go_simp
                                with_reducible rfl
                              rotate_left
                              · simp only [Act.put, List.setIfInBounds_toArray, List.set_cons_zero, List.set_cons_succ, i64_w, i32_w]
                                rfl
                              refine one_ (i := 12) (N := some 60) #[true, true, true, true, true, true, true, true, true, true, true, true, true] rfl rfl (one_of HT_.out (by kernel_rfl)) (by decide) (fun K hK => ?_)
                              refine goes_ Try.func38 (by kernel_rfl) rfl #[.slice (some ad262) (rd_L4 l1 x8_1).length c260_0, .int .i64 x10_2, .int .i64 (rd (rd_L4 l1 x8_1) x10_2)] (by rfl) rfl rfl (by (try simp only [List.map_toArray, List.map_cons, List.map_nil]); first | done | rfl | (simp only [List.length_drop, List.length_take]; rfl)) ?_
                              with_reducible refine (tangramref11_stands.calls k2 _ _ (rd_L4 l1 x8_1) x10_2 (rd (rd_L4 l1 x8_1) x10_2) false _ ?side1 ?side2 A20.out).mono ?_
                              (case side1 => repeat (first | exact (Kd.C_below HR260_0.out HB.out) | (with_reducible refine Kd.C_alloc ?_ _) | (with_reducible refine Kd.C_drewN ?_ _) | (with_reducible refine Kd.C_drew ?_)))
                              (case side2 => exact HC260_0.out)
                              rintro e w' ⟨rfl, ⟨nd, rfl⟩⟩
                              refine ⟨_, rfl, ?_⟩
                              refine hK.out _ _ ⟨((HB.out.cell (World.block_lt_of_cell? w _ hw260_0)).trans hw260_0), ((HB.out.cell (World.block_lt_of_cell? w _ hw261_0)).trans hw261_0), ((HB.out.cell (World.block_lt_of_cell? w _ hw262_0)).trans hw262_0)⟩ (fun hHeld => ?_)
                              clear hK K
                              refine norm_ (a' := ?_) ?_ ?_
                              rotate_left
                              · show Act.put _ (some 60) _ = _
                                simp only [Act.put, List.setIfInBounds_toArray, List.set_cons_zero, List.set_cons_succ, i64_w, i32_w]
                                rfl
                              refine done_ (done_of HT_.out (by kernel_rfl)) ?_
                              try go_wp2_with (first | ((with_reducible refine gate_builtin (b := .append) (xs := #[.tmp 62, .tmp 64]) rfl ?_); at_builtin; refine Kd.R_append (Kd.int .i64) (w0 := w) w.heap.size rfl (.tmp 62) (.tmp 64) 28 3 (.int .i64 0) 8 rfl Try.underlying28 info3 rfl (by decide) (by omega) u9 x9_2 t259 [.int .i64 t259] (fun _ => True) (fun _ => False) rfl rfl ?aP (fun _ hk => hk.elim) ?aF ?aO ?aB ?aS ?aL ?_; (case aP => exact rfl); (case aB => exact (by repeat (first | (with_reducible first | exact HB.out | apply below_alloc | apply pw_below_drewN | apply below_drew1 | refine below_set ?_ GE250.out) | exact HB.out))); (case aF => exact (fun _ _ => trivial)); (case aO => exact (by (with_reducible repeat (first | apply Kd.R_alloc | apply Kd.R_drewN | apply Kd.R_drew)); exact HO_9.out)); (case aS => exact (below_size (by repeat (first | (with_reducible first | exact HB.out | apply below_alloc | apply pw_below_drewN | apply below_drew1 | refine below_set ?_ GE250.out) | exact HB.out)))); (case aL => have := LMc25.out; omega); intro v265 w29 ho hb hg hat; rw [← Ny264.out] at ho; have n0_ := Aside0.mk (Kd.S_after (ok := (fun _ => True)) (by (with_reducible repeat (first | apply Kd.S_alloc | apply Kd.S_drewN | apply Kd.S_drew)); exact Kd.S_mono HO_7.out (fun _ hk => ⟨trivial, hk⟩)) hg hat); have n1_ := Aside0.mk (blk_grown (g := gb250) (o := .cells #[.int .i64 a0_0, .slice A0_1 l0_1.length c0_1] 24 (0, 0)) (by (with_reducible repeat (first | refine blk_drewN ?_ _ | refine blk_drew ?_ | refine blk_alloc ?_ _)); exact BK250.out) hg (Kd.R_ne HO_9.out BK250.out (by decide))); have n2_ := Aside0.mk (hb); have n3_ := Aside0.mk (ho); clear HO_7; clear BK250; clear HB; clear HO_9; have HO_7 := n0_; have BK250 := n1_; have HB := n2_; have HO266 := n3_; clear n0_ n1_ n2_ n3_; clear ho hb hg hat))
                              go_roundg k2
                              case measure => have := HK1.out; have := HK2.out; omega
                              case rel => exact ⟨(y264), (wrap64 (x10_2 + 1)), (by first | rfl | (simp; done) | (simp [*]; done)), H', ⟨by have := HK1.out; have := HK2.out; omega⟩, ⟨by (with_reducible repeat (first | apply Kd.S_alloc | apply Kd.S_drewN | apply Kd.S_drew)); exact Kd.S_mono HO_7.out (fun _ hk => hk.2)⟩, ⟨by (with_reducible repeat (first | apply Kd.R_alloc | apply Kd.R_drewN | apply Kd.R_drew)); exact HO266.out⟩, ⟨by (with_reducible repeat (first | refine blk_drewN ?_ _ | refine blk_drew ?_ | refine blk_alloc ?_ _)); exact BK250.out⟩, ⟨by repeat (first | (with_reducible first | exact HB.out | apply below_alloc | apply pw_below_drewN | apply below_drew1 | refine below_set ?_ GE250.out) | exact HB.out)⟩⟩
                            · rw [if_neg c25] at H
                              exact absurd H (by simp)
                      · rw [if_neg c15] at H
                        exact absurd H (by simp)
                    · rw [if_neg c14] at H
                      have c14b0 : decide (x10_2 < ((rd_L4 l1 x8_1).length : Int)) = false := decide_eq_false c14
                      clear c14
                      replace H := Option.bind_eq_some_iff.mp H
                      obtain ⟨t253, A300, H⟩ := H
                      replace H : (if (x9_2.length : Int) < t253 then (some (([] : List (List Int)), x8_1, 113)) else (if x7_1.length < 5864062014805 then (tangramref11_Of.l0 k2 l1 (x7_1 ++ [x9_2]) (wrap64 (x8_1 + 1)) a0_0 l0_1) else (none))) = some (r1, r2, r3) := H
                      have A30 := Aside0.mk A300
                      clear A300
                      by_cases c31 : (x9_2.length : Int) < t253
                      · rw [if_pos c31] at H
                        have c31b0 : decide ((x9_2.length : Int) < t253) = true := decide_eq_true c31
                        clear c31
                        simp only [Option.some.injEq, Prod.mk.injEq] at H
                        obtain ⟨rfl, rfl, rfl⟩ := H
                        have p252 : 0 ≤ (x8_1 : Int) := of_decide_eq_true (by first | (with_reducible assumption) | assumption)
                        have q252 : x8_1 < (l1.length : Int) := of_decide_eq_true (by first | (with_reducible assumption) | assumption)
                        obtain ⟨ad252, A252_0, c252_0, e252, hx252_0, hl252_0, hi252_0⟩ := at_L4 HR1.out x8_1 p252 q252
                        cases e252
                        replace hx252_0 := (HB.out.cell (World.block_lt_of_cell? w _ hx252_0)).trans hx252_0
                        have HR252_0 := Aside0.mk hi252_0
                        have HC252_0 := Aside0.mk hl252_0
                        clear hi252_0 hl252_0
                        replace p252 := eq_true p252
                        replace q252 := eq_true q252
                        obtain ⟨Ao32, co32, eo32⟩ := Kd.R_slice HO_9.out
                        subst eo32
                        have hcz33_0 : wr.cell? ⟨gb250, 0, none⟩ = some (.int .i64 a0_0) := (blk_cell BK250.out 0).trans rfl
                        have hcz33_1 : wr.cell? ⟨gb250, 1, none⟩ = some (.slice A0_1 l0_1.length c0_1) := (blk_cell BK250.out 1).trans rfl
                        have hfz33_0 := blk_frozen BK250.out 0
                        have hfz33_1 := blk_frozen BK250.out 1
                        go_wp2_with (first | ((with_reducible refine gate_callee (f := 39) rfl ?_); refine goesL_ (some 70) rfl rfl Try.func39 (by kernel_rfl) rfl #[.agg #[.int .i64 a0_0, .slice A0_1 l0_1.length c0_1], .int .i64 x8_1] rfl (by (try simp only [List.map_toArray, List.map_cons, List.map_nil]); first | done | rfl | (simp only [List.length_drop, List.length_take]; rfl)) ?_; (with_reducible refine (tangramref11_degree.calls k2 a0_0 _ _ l0_1 x8_1 t253 _ ?side1 ?side2 A30.out).mono ?_); (case side1 => repeat (first | exact (Kd.C_below HR0_1.out HB.out) | (with_reducible refine Kd.C_alloc ?_ _) | (with_reducible refine Kd.C_drewN ?_ _) | (with_reducible refine Kd.C_drew ?_))); (case side2 => exact HC0_1.out); rintro e w34 ⟨rfl, hb⟩; refine ⟨_, rfl, ?_⟩; have n0_ := Aside0.mk (Kd.S_below (by (with_reducible repeat (first | apply Kd.S_alloc | apply Kd.S_drewN | apply Kd.S_drew)); exact HO_7.out) hb); have n1_ := Aside0.mk (Kd.R_below (by (with_reducible repeat (first | apply Kd.R_alloc | apply Kd.R_drewN | apply Kd.R_drew)); exact HO_9.out) hb); have n2_ := Aside0.mk (blk_below (g := gb250) (o := .cells #[.int .i64 a0_0, .slice A0_1 l0_1.length c0_1] 24 (0, 0)) (by (with_reducible repeat (first | refine blk_drewN ?_ _ | refine blk_drew ?_ | refine blk_alloc ?_ _)); exact BK250.out) hb); have n3_ := Aside0.mk (below_step (by repeat (first | (with_reducible first | exact HB.out | apply below_alloc | apply pw_below_drewN | apply below_drew1 | refine below_set ?_ GE250.out) | exact HB.out)) hb); clear HO_7; clear HO_9; clear BK250; clear HB; have HO_7 := n0_; have HO_9 := n1_; have BK250 := n2_; have HB := n3_; clear n0_ n1_ n2_ n3_; (try clear hb); (try clear hb2); (try clear hk); (try clear hi)))
                        go_ret3
                        exact ⟨_, by first | rfl | (simp [errW_none, errW_some] <;> rfl) | (simp [*, errW_none, errW_some] <;> rfl), by first | exact Kd.S_nil _ _ _ _ _ | exact Kd.N_nil _ _ _ _ _ | exact Kd.V_nil _ _ _ _ _ | exact Kd.Q_nil _ _ _ _ _ | exact Kd.R_nil _ _ _ _ _, by repeat (first | (with_reducible first | exact HB.out | apply below_alloc | apply pw_below_drewN | apply below_drew1 | refine below_set ?_ GE250.out) | exact HB.out)⟩
                      · rw [if_neg c31] at H
                        have c31b0 : decide ((x9_2.length : Int) < t253) = false := decide_eq_false c31
                        clear c31
                        by_cases c35 : x7_1.length < 5864062014805
                        · rw [if_pos c35] at H
                          have LMc35 := Aside0.mk c35
                          clear c35
                          obtain ⟨y254, hy254⟩ : ∃ y_ : List (List Int), y_ = (x7_1 ++ [x9_2]) := ⟨_, rfl⟩
                          replace H : (tangramref11_Of.l0 k2 l1 y254 (wrap64 (x8_1 + 1)) a0_0 l0_1) = some (r1, r2, r3) := by first | (rw [hy254]; with_reducible exact H) | (have H2_ := (Option.bind_some _ _).symm.trans H; rw [hy254]; with_reducible exact H2_) | (have H2_ := (Option.bind_some _ _).symm.trans H; with_reducible exact H2_) | with_reducible exact H | (rw [hy254]; exact H) | exact H
                          have Ny254 := Aside0.mk hy254
                          clear hy254
                          have H' := Aside0.mk H
                          clear H
                          have p252 : 0 ≤ (x8_1 : Int) := of_decide_eq_true (by first | (with_reducible assumption) | assumption)
                          have q252 : x8_1 < (l1.length : Int) := of_decide_eq_true (by first | (with_reducible assumption) | assumption)
                          obtain ⟨ad252, A252_0, c252_0, e252, hx252_0, hl252_0, hi252_0⟩ := at_L4 HR1.out x8_1 p252 q252
                          cases e252
                          replace hx252_0 := (HB.out.cell (World.block_lt_of_cell? w _ hx252_0)).trans hx252_0
                          have HR252_0 := Aside0.mk hi252_0
                          have HC252_0 := Aside0.mk hl252_0
                          clear hi252_0 hl252_0
                          replace p252 := eq_true p252
                          replace q252 := eq_true q252
                          obtain ⟨Ao36, co36, eo36⟩ := Kd.R_slice HO_9.out
                          subst eo36
                          have hcz37_0 : wr.cell? ⟨gb250, 0, none⟩ = some (.int .i64 a0_0) := (blk_cell BK250.out 0).trans rfl
                          have hcz37_1 : wr.cell? ⟨gb250, 1, none⟩ = some (.slice A0_1 l0_1.length c0_1) := (blk_cell BK250.out 1).trans rfl
                          have hfz37_0 := blk_frozen BK250.out 0
                          have hfz37_1 := blk_frozen BK250.out 1
                          go_wp2_with (first | ((with_reducible refine gate_callee (f := 39) rfl ?_); refine goesL_ (some 70) rfl rfl Try.func39 (by kernel_rfl) rfl #[.agg #[.int .i64 a0_0, .slice A0_1 l0_1.length c0_1], .int .i64 x8_1] rfl (by (try simp only [List.map_toArray, List.map_cons, List.map_nil]); first | done | rfl | (simp only [List.length_drop, List.length_take]; rfl)) ?_; (with_reducible refine (tangramref11_degree.calls k2 a0_0 _ _ l0_1 x8_1 t253 _ ?side1 ?side2 A30.out).mono ?_); (case side1 => repeat (first | exact (Kd.C_below HR0_1.out HB.out) | (with_reducible refine Kd.C_alloc ?_ _) | (with_reducible refine Kd.C_drewN ?_ _) | (with_reducible refine Kd.C_drew ?_))); (case side2 => exact HC0_1.out); rintro e w38 ⟨rfl, hb⟩; refine ⟨_, rfl, ?_⟩; have n0_ := Aside0.mk (Kd.S_below (by (with_reducible repeat (first | apply Kd.S_alloc | apply Kd.S_drewN | apply Kd.S_drew)); exact HO_7.out) hb); have n1_ := Aside0.mk (Kd.R_below (by (with_reducible repeat (first | apply Kd.R_alloc | apply Kd.R_drewN | apply Kd.R_drew)); exact HO_9.out) hb); have n2_ := Aside0.mk (blk_below (g := gb250) (o := .cells #[.int .i64 a0_0, .slice A0_1 l0_1.length c0_1] 24 (0, 0)) (by (with_reducible repeat (first | refine blk_drewN ?_ _ | refine blk_drew ?_ | refine blk_alloc ?_ _)); exact BK250.out) hb); have n3_ := Aside0.mk (below_step (by repeat (first | (with_reducible first | exact HB.out | apply below_alloc | apply pw_below_drewN | apply below_drew1 | refine below_set ?_ GE250.out) | exact HB.out)) hb); clear HO_7; clear HO_9; clear BK250; clear HB; have HO_7 := n0_; have HO_9 := n1_; have BK250 := n2_; have HB := n3_; clear n0_ n1_ n2_ n3_; (try clear hb); (try clear hb2); (try clear hk); (try clear hi)) | ((with_reducible refine gate_builtin (b := .append) (xs := #[.tmp 73, .tmp 75]) rfl ?_); at_builtin; refine Kd.S_append (Kd.slice 3 (Kd.int .i64)) (w0 := w) w.heap.size rfl (.tmp 73) (.tmp 75) 26 28 (.slice none 0 0) 24 rfl Try.underlying26 info28 rfl (by decide) (by omega) u7 x7_1 x9_2 [.slice Ao36 x9_2.length co36] (fun _ => True) (fun k_ => some k_ = (.slice Ao36 x9_2.length co36 : Value).ownBlock) rfl rfl ?aP (fun k_ hk_ => ((Kd.R_mono (ok' := fun k_ => ((fun _ => True)) k_ ∧ some k_ ≠ (u7 : Value).ownBlock) (Kd.R_apart' (HO_9.out) (Kd.S_typed HO_7.out) (by decide)) (fun k_ hk => ⟨trivial, hk.2⟩))).1 k_ hk_.symm) ?aF ?aO ?aB ?aS ?aL ?_; (case aP => exact Kd.M_row (Kd.R_mono (Kd.R_tight rfl (Kd.R_mono (ok' := fun k_ => ((fun _ => True)) k_ ∧ some k_ ≠ (u7 : Value).ownBlock) (Kd.R_apart' (HO_9.out) (Kd.S_typed HO_7.out) (by decide)) (fun k_ hk => ⟨trivial, hk.2⟩))) (fun _ h_ => h_))); (case aB => exact (by repeat (first | (with_reducible first | exact HB.out | apply below_alloc | apply pw_below_drewN | apply below_drew1 | refine below_set ?_ GE250.out) | exact HB.out))); (case aF => exact (fun _ _ => trivial)); (case aO => exact (by (with_reducible repeat (first | apply Kd.S_alloc | apply Kd.S_drewN | apply Kd.S_drew)); exact Kd.S_mono HO_7.out (fun k_ hk => ⟨trivial, fun e_ => hk e_⟩))); (case aS => exact (below_size (by repeat (first | (with_reducible first | exact HB.out | apply below_alloc | apply pw_below_drewN | apply below_drew1 | refine below_set ?_ GE250.out) | exact HB.out)))); (case aL => have := LMc35.out; omega); intro v255 w39 ho hb hg hat; rw [← Ny254.out] at ho; have n0_ := Aside0.mk (blk_grown (g := gb250) (o := .cells #[.int .i64 a0_0, .slice A0_1 l0_1.length c0_1] 24 (0, 0)) (by (with_reducible repeat (first | refine blk_drewN ?_ _ | refine blk_drew ?_ | refine blk_alloc ?_ _)); exact BK250.out) hg (Kd.S_ne HO_7.out BK250.out (by decide))); have n1_ := Aside0.mk (hb); have n2_ := Aside0.mk (ho); clear BK250; clear HB; clear HO_7; clear HO_9; have BK250 := n0_; have HB := n1_; have HO256 := n2_; clear n0_ n1_ n2_; clear ho hb hg hat))
                          go_roundg k2
                          case measure => have := HK1.out; have := HK2.out; omega
                          case rel => exact ⟨(y254), (wrap64 (x8_1 + 1)), (by first | rfl | (simp; done) | (simp [*]; done)), H', ⟨by have := HK1.out; have := HK2.out; omega⟩, ⟨by (with_reducible repeat (first | apply Kd.S_alloc | apply Kd.S_drewN | apply Kd.S_drew)); exact HO256.out⟩, ⟨by (with_reducible repeat (first | refine blk_drewN ?_ _ | refine blk_drew ?_ | refine blk_alloc ?_ _)); exact BK250.out⟩, ⟨by repeat (first | (with_reducible first | exact HB.out | apply below_alloc | apply pw_below_drewN | apply below_drew1 | refine below_set ?_ GE250.out) | exact HB.out)⟩⟩
                        · rw [if_neg c35] at H
                          exact absurd H (by simp)
                  · rw [if_neg c13] at H
                    exact absurd H (by simp)
                · rw [if_neg c12] at H
                  exact absurd H (by simp)
          · rw [if_neg c10] at H
            have c10b0 : decide (x8_1 < a0_0) = false := decide_eq_false c10
            clear c10
            simp only [Option.some.injEq, Prod.mk.injEq] at H
            obtain ⟨rfl, rfl, rfl⟩ := H
            have hcz40_0 : wr.cell? ⟨gb250, 0, none⟩ = some (.int .i64 a0_0) := (blk_cell BK250.out 0).trans rfl
            have hcz40_1 : wr.cell? ⟨gb250, 1, none⟩ = some (.slice A0_1 l0_1.length c0_1) := (blk_cell BK250.out 1).trans rfl
            have hfz40_0 := blk_frozen BK250.out 0
            have hfz40_1 := blk_frozen BK250.out 1
            go_wp2
            go_ret3
            exact ⟨_, by first | rfl | (simp [errW_none, errW_some] <;> rfl) | (simp [*, errW_none, errW_some] <;> rfl), by (with_reducible repeat (first | apply Kd.S_alloc | apply Kd.S_drewN | apply Kd.S_drew)); exact HO_7.out, by repeat (first | (with_reducible first | exact HB.out | apply below_alloc | apply pw_below_drewN | apply below_drew1 | refine below_set ?_ GE250.out) | exact HB.out)⟩
    · rw [if_neg c5] at H
      have c5b0 : ((l1.length : Int) == a0_0) = false := beq_eq_false_iff_ne.mpr c5
      have c5b1 : ((l1.length : Int) != a0_0) = true := bne_iff_ne.mpr c5
      simp only [Option.some.injEq, Prod.mk.injEq] at H
      obtain ⟨rfl, rfl, rfl⟩ := H
      go_enter Try.func23, Try.ntmps23
      go_wp2_with (first | ((with_reducible refine gate_dst (N := 2) rfl ?_); refine box_event ?hg (N := 2) ?hd (cs := #[.int .i64 a0_0, .slice A0_1 l0_1.length c0_1]) (t := 24) ?hr ?_; (case hd => rfl); (case hg => rfl); (case hr => first | (go_simp; done) | (go_simp; rfl)); intro gb250 hg w41 hbox hb; have n0_ := Aside0.mk (below_step (by repeat (first | (with_reducible first | exact HB.out | apply below_alloc | apply pw_below_drewN | apply below_drew1) | exact HB.out)) hb); have n1_ := Aside0.mk (hbox); have n2_ := Aside0.mk ((by rw [hg]; exact (below_size (by repeat (first | (with_reducible first | exact HB.out | apply below_alloc | apply pw_below_drewN | apply below_drew1) | exact HB.out))) : w.heap.size ≤ gb250)); have n3_ := Aside0.mk ((by rw [hg]; exact (below_size (by repeat (first | (with_reducible first | exact HB.out | apply below_alloc | apply pw_below_drewN | apply below_drew1) | exact HB.out))) : w.heap.size ≤ gb250)); clear HB; have HB := n0_; have BK250 := n1_; have GW250 := n2_; have GE250 := n3_; clear n0_ n1_ n2_ n3_; clear hb hbox hg; have hcz42_0 : w41.cell? ⟨gb250, 0, none⟩ = some (.int .i64 a0_0) := (blk_cell BK250.out 0).trans rfl; have hcz42_1 : w41.cell? ⟨gb250, 1, none⟩ = some (.slice A0_1 l0_1.length c0_1) := (blk_cell BK250.out 1).trans rfl; have hfz42_0 := blk_frozen BK250.out 0; have hfz42_1 := blk_frozen BK250.out 1) | ((with_reducible refine gate_callee (f := 13) rfl ?_); refine goesL_ (some 13) rfl rfl Try.func13 (by kernel_rfl) rfl #[.agg #[.int .i64 a0_0, .slice A0_1 l0_1.length c0_1]] rfl (by (try simp only [List.map_toArray, List.map_cons, List.map_nil]); first | done | rfl | (simp only [List.length_drop, List.length_take]; rfl)) ?_; (with_reducible refine (tangramref03_Valid.calls k a0_0 _ _ l0_1 true _ ?side1 ?side2 A3.out).mono ?_); (case side1 => repeat (first | exact (Kd.C_below HR0_1.out HB.out) | (with_reducible refine Kd.C_alloc ?_ _) | (with_reducible refine Kd.C_drewN ?_ _) | (with_reducible refine Kd.C_drew ?_))); (case side2 => exact HC0_1.out); rintro e w43 ⟨rfl, hb⟩; refine ⟨_, rfl, ?_⟩; have n0_ := Aside0.mk (blk_below (g := gb250) (o := .cells #[.int .i64 a0_0, .slice A0_1 l0_1.length c0_1] 24 (0, 0)) (by (with_reducible repeat (first | refine blk_drewN ?_ _ | refine blk_drew ?_ | refine blk_alloc ?_ _)); exact BK250.out) hb); have n1_ := Aside0.mk (below_step (by repeat (first | (with_reducible first | exact HB.out | apply below_alloc | apply pw_below_drewN | apply below_drew1 | refine below_set ?_ GE250.out) | exact HB.out)) hb); clear BK250; clear HB; have BK250 := n0_; have HB := n1_; clear n0_ n1_; (try clear hb); (try clear hb2); (try clear hk); (try clear hi); have hcz44_0 : w43.cell? ⟨gb250, 0, none⟩ = some (.int .i64 a0_0) := (blk_cell BK250.out 0).trans rfl; have hcz44_1 : w43.cell? ⟨gb250, 1, none⟩ = some (.slice A0_1 l0_1.length c0_1) := (blk_cell BK250.out 1).trans rfl; have hfz44_0 := blk_frozen BK250.out 0; have hfz44_1 := blk_frozen BK250.out 1))
      go_ret3
      exact ⟨_, by first | rfl | (simp [errW_none, errW_some] <;> rfl) | (simp [*, errW_none, errW_some] <;> rfl), by first | exact Kd.S_nil _ _ _ _ _ | exact Kd.N_nil _ _ _ _ _ | exact Kd.V_nil _ _ _ _ _ | exact Kd.Q_nil _ _ _ _ _ | exact Kd.R_nil _ _ _ _ _, by repeat (first | (with_reducible first | exact HB.out | apply below_alloc | apply pw_below_drewN | apply below_drew1 | refine below_set ?_ GE250.out) | exact HB.out)⟩
  · replace c4 := Bool.eq_false_iff.mpr c4
    subst c4
    have H1 : (some (([] : List (List Int)), 0, 1)) = some (r1, r2, r3) := by rw [if_neg (show ¬ (false = true) by decide)] at H; exact H
    clear H
    have H := H1
    clear H1
    simp only [Option.some.injEq, Prod.mk.injEq] at H
    obtain ⟨rfl, rfl, rfl⟩ := H
    go_enter Try.func23, Try.ntmps23
    go_wp2_with (first | ((with_reducible refine gate_dst (N := 2) rfl ?_); refine box_event ?hg (N := 2) ?hd (cs := #[.int .i64 a0_0, .slice A0_1 l0_1.length c0_1]) (t := 24) ?hr ?_; (case hd => rfl); (case hg => rfl); (case hr => first | (go_simp; done) | (go_simp; rfl)); intro gb250 hg w45 hbox hb; have n0_ := Aside0.mk (below_step (by repeat (first | (with_reducible first | exact HB.out | apply below_alloc | apply pw_below_drewN | apply below_drew1) | exact HB.out)) hb); have n1_ := Aside0.mk (hbox); have n2_ := Aside0.mk ((by rw [hg]; exact (below_size (by repeat (first | (with_reducible first | exact HB.out | apply below_alloc | apply pw_below_drewN | apply below_drew1) | exact HB.out))) : w.heap.size ≤ gb250)); have n3_ := Aside0.mk ((by rw [hg]; exact (below_size (by repeat (first | (with_reducible first | exact HB.out | apply below_alloc | apply pw_below_drewN | apply below_drew1) | exact HB.out))) : w.heap.size ≤ gb250)); clear HB; have HB := n0_; have BK250 := n1_; have GW250 := n2_; have GE250 := n3_; clear n0_ n1_ n2_ n3_; clear hb hbox hg; have hcz46_0 : w45.cell? ⟨gb250, 0, none⟩ = some (.int .i64 a0_0) := (blk_cell BK250.out 0).trans rfl; have hcz46_1 : w45.cell? ⟨gb250, 1, none⟩ = some (.slice A0_1 l0_1.length c0_1) := (blk_cell BK250.out 1).trans rfl; have hfz46_0 := blk_frozen BK250.out 0; have hfz46_1 := blk_frozen BK250.out 1) | ((with_reducible refine gate_callee (f := 13) rfl ?_); refine goesL_ (some 13) rfl rfl Try.func13 (by kernel_rfl) rfl #[.agg #[.int .i64 a0_0, .slice A0_1 l0_1.length c0_1]] rfl (by (try simp only [List.map_toArray, List.map_cons, List.map_nil]); first | done | rfl | (simp only [List.length_drop, List.length_take]; rfl)) ?_; (with_reducible refine (tangramref03_Valid.calls k a0_0 _ _ l0_1 false _ ?side1 ?side2 A3.out).mono ?_); (case side1 => repeat (first | exact (Kd.C_below HR0_1.out HB.out) | (with_reducible refine Kd.C_alloc ?_ _) | (with_reducible refine Kd.C_drewN ?_ _) | (with_reducible refine Kd.C_drew ?_))); (case side2 => exact HC0_1.out); rintro e w47 ⟨rfl, hb⟩; refine ⟨_, rfl, ?_⟩; have n0_ := Aside0.mk (blk_below (g := gb250) (o := .cells #[.int .i64 a0_0, .slice A0_1 l0_1.length c0_1] 24 (0, 0)) (by (with_reducible repeat (first | refine blk_drewN ?_ _ | refine blk_drew ?_ | refine blk_alloc ?_ _)); exact BK250.out) hb); have n1_ := Aside0.mk (below_step (by repeat (first | (with_reducible first | exact HB.out | apply below_alloc | apply pw_below_drewN | apply below_drew1 | refine below_set ?_ GE250.out) | exact HB.out)) hb); clear BK250; clear HB; have BK250 := n0_; have HB := n1_; clear n0_ n1_; (try clear hb); (try clear hb2); (try clear hk); (try clear hi)))
    go_ret3
    exact ⟨_, by first | rfl | (simp [errW_none, errW_some] <;> rfl) | (simp [*, errW_none, errW_some] <;> rfl), by first | exact Kd.S_nil _ _ _ _ _ | exact Kd.N_nil _ _ _ _ _ | exact Kd.V_nil _ _ _ _ _ | exact Kd.Q_nil _ _ _ _ _ | exact Kd.R_nil _ _ _ _ _, by repeat (first | (with_reducible first | exact HB.out | apply below_alloc | apply pw_below_drewN | apply below_drew1 | refine below_set ?_ GE250.out) | exact HB.out)⟩

end Go.Proofs.Ytkkhhbegeboonaa.GAll
/- DERIVED. The document's Of and the program's From: they answer the same. No program. -/



namespace Go.Proofs.Ytkkhhbegeboonaa.Rot
open Go.RowKit Go.Proofs.YtkkhhbegeboonaaW.PrintWords Go.Proofs.YtkkhhbegeboonaaW.PrintLast Go.Proofs.YtkkhhbegeboonaaW.PrintMore Go.Proofs.Ytkkhhbegeboonaa.GAll Go.Proofs.Ytkkhhbegeboonaa.Mem
set_option linter.unusedVariables false
set_option linter.unusedSimpArgs false
section
variable {n : Int} {l : List Ed}
theorem good_lt (hg : PureV.Good n l) {i : Nat} (d : Nat) (h : i + d + 1 < l.length) : PureV.lt (PureV.rdE l (i : Nat)) (PureV.rdE l ((i + d + 1 : Nat) : Int)) := by
  induction d with
  | zero =>
    have := (hg.2.2.2 (i + 0 + 1) h).2 (by omega)
    exact this
  | succ d ih =>
    have h1 := ih (by omega)
    have h2 := (hg.2.2.2 (i + (d + 1) + 1) h).2 (by omega)
    have e : i + (d + 1) + 1 - 1 = i + d + 1 := by omega
    rw [e] at h2
    unfold PureV.lt at h1 h2 ⊢
    omega
theorem good_ne (hg : PureV.Good n l) {i j : Nat} (hi : i < l.length) (hj : j < l.length) (e1 : (PureV.rdE l (i : Nat)).f0 = (PureV.rdE l (j : Nat)).f0) (e2 : (PureV.rdE l (i : Nat)).f1 = (PureV.rdE l (j : Nat)).f1) : i = j := by
  rcases Nat.lt_trichotomy i j with h | h | h
  · have := good_lt hg (i := i) (j - i - 1) (by omega)
    rw [show i + (j - i - 1) + 1 = j by omega] at this
    unfold PureV.lt at this; omega
  · exact h
  · have := good_lt hg (i := j) (i - j - 1) (by omega)
    rw [show j + (i - j - 1) + 1 = i by omega] at this
    unfold PureV.lt at this; omega
theorem half_some (hl : l.length ≤ 4194304) : ∀ (i : Nat), i ≤ l.length → ∀ (u v h : Int), halfTo (ends l) i (u, v) = some h → 0 ≤ h ∧ h < ((2 * i : Nat) : Int) ∧ gi (frs l) h.toNat = u ∧ gi (frs l) (twin h).toNat = v
  | 0, _, u, v, h, e => by cases e
  | i + 1, hi, u, v, h, e => by
    unfold halfTo at e
    rw [pe_ends (show i < l.length by omega)] at e
    have t0 := twin_nat (q := 2 * i) (by omega)
    have t1 := twin_nat (q := 2 * i + 1) (by omega)
    rw [if_pos (by omega)] at t0
    rw [if_neg (by omega), show 2 * i + 1 - 1 = 2 * i by omega] at t1
    have f0 := frs_even (l := l) (i := i) (by omega)
    have f1 := frs_odd (l := l) (i := i) (by omega)
    split at e
    · next c =>
      injection e with e
      injection c with c1 c2
      subst e
      rw [t1, Int.toNat_natCast, Int.toNat_natCast, f0, f1]
      exact ⟨by omega, by omega, c1.symm, c2.symm⟩
    · split at e
      · next c =>
        injection e with e
        injection c with c1 c2
        subst e
        rw [t0, Int.toNat_natCast, Int.toNat_natCast, f0, f1]
        exact ⟨by omega, by omega, c1.symm, c2.symm⟩
      · have := half_some hl i (by omega) u v h e
        exact ⟨this.1, by omega, this.2.2⟩
theorem half_is (hg : PureV.Good n l) : ∀ (i : Nat), i ≤ l.length → ∀ (q : Nat), q < 2 * i → halfTo (ends l) i (gi (frs l) q, gi (frs l) (twin (q : Int)).toNat) = some (q : Int)
  | 0, _, q, hq => by omega
  | i + 1, hi, q, hq => by
    have hl := hg.2.2.1
    have hil : i < l.length := by omega
    obtain ⟨⟨a0, a1, a2⟩, _⟩ := hg.2.2.2 i hil
    have tq := twin_nat (q := q) (by omega)
    have hj : q / 2 < l.length := by omega
    obtain ⟨⟨b0, b1, b2⟩, _⟩ := hg.2.2.2 (q / 2) hj
    unfold halfTo
    rw [pe_ends hil]
    have g0 := frs_even hj
    have g1 := frs_odd hj
    rcases Nat.mod_two_eq_zero_or_one q with e | e
    · rw [if_pos e] at tq
      have q0 : 2 * (q / 2) = q := by omega
      rw [q0] at g0 g1
      rw [tq, Int.toNat_natCast, g0, g1]
      by_cases c : q / 2 = i
      · rw [c, if_neg (by intro h; injection h with h1 h2; omega), if_pos rfl]
        congr 1; omega
      · have hne : ¬ ((PureV.rdE l ((q / 2 : Nat) : Int)).f0 = (PureV.rdE l (i : Nat)).f0 ∧ (PureV.rdE l ((q / 2 : Nat) : Int)).f1 = (PureV.rdE l (i : Nat)).f1) := fun h => c (good_ne hg hj hil h.1 h.2)
        rw [if_neg (by intro h; injection h with h1 h2; omega), if_neg (by intro h; injection h with h1 h2; exact hne ⟨h1, h2⟩)]
        have := half_is hg i (by omega) q (by omega)
        rw [tq, Int.toNat_natCast, g0, g1] at this
        exact this
    · rw [if_neg (by omega)] at tq
      have q0 : 2 * (q / 2) = q - 1 := by omega
      rw [q0] at g0 g1
      rw [show q - 1 + 1 = q by omega] at g1
      rw [tq, Int.toNat_natCast, g0, g1]
      by_cases c : q / 2 = i
      · rw [c, if_pos rfl]
        congr 1; omega
      · have hne : ¬ ((PureV.rdE l ((q / 2 : Nat) : Int)).f0 = (PureV.rdE l (i : Nat)).f0 ∧ (PureV.rdE l ((q / 2 : Nat) : Int)).f1 = (PureV.rdE l (i : Nat)).f1) := fun h => c (good_ne hg hj hil h.1 h.2)
        rw [if_neg (by intro h; injection h with h1 h2; exact hne ⟨h2, h1⟩), if_neg (by intro h; injection h with h1 h2; omega)]
        have := half_is hg i (by omega) q (by omega)
        rw [tq, Int.toNat_natCast, g0, g1] at this
        exact this
def halfInt : Option Int → Int
  | some h => h
  | none => -1
theorem half_ev (hg : PureV.Good n l) (u v : Int) : Ev (fun k => tangramref11_Half.f k n l u v) (halfInt (halfOf (ends l) (u, v))) := by
  have hl := hg.2.2.1
  have hel := ends_length l
  have loop : ∀ (d i : Nat), i + d = 2 * l.length → (∀ q, q < i → ¬ (gi (frs l) q = u ∧ gi (frs l) (twin (q : Int)).toNat = v)) → Ev (fun k => tangramref11_Half.l0 k u v (i : Int) n l) (halfInt (halfOf (ends l) (u, v))) := by
    intro d
    induction d with
    | zero =>
      intro i hi hp
      have hno : halfOf (ends l) (u, v) = none := by
        cases e : halfOf (ends l) (u, v) with
        | none => rfl
        | some h =>
          unfold halfOf at e
          obtain ⟨h1, h2, h3, h4⟩ := half_some hl _ (by omega) u v h e
          obtain ⟨q, rfl⟩ := Int.eq_ofNat_of_zero_le h1
          rw [Int.toNat_natCast] at h3
          exact absurd ⟨h3, h4⟩ (hp q (by omega))
      rw [hno]
      refine Ev.step (f := fun _ => some (-1)) (fun k => ?_) (Ev.now _)
      simp only [tangramref11_Half.l0]
      rw [IntWalk.wrap64_in _ (by omega), if_neg (by omega)]
    | succ d ih =>
      intro i hi hp
      have hto : tangramref11_To.f n l (i : Int) = some (gi (frs l) (twin (i : Int)).toNat) := by
        unfold tangramref11_To.f
        show (tangramref11_From.f n l (twin (i : Int))).bind _ = _
        obtain ⟨t1, t2⟩ := twin_in hl (show i < 2 * l.length by omega)
        obtain ⟨q, hq⟩ := Int.eq_ofNat_of_zero_le t1
        rw [hq, from_f hl (by omega), Option.bind_some, Int.toNat_natCast]
      have hst : ∀ k, tangramref11_Half.l0 (k + 1) u v (i : Int) n l = if gi (frs l) i = u then (if gi (frs l) (twin (i : Int)).toNat = v then some (i : Int) else tangramref11_Half.l0 k u v ((i + 1 : Nat) : Int) n l) else tangramref11_Half.l0 k u v ((i + 1 : Nat) : Int) n l := by
        intro k
        simp only [tangramref11_Half.l0]
        rw [IntWalk.wrap64_in (2 * (l.length : Int)) (by omega), if_pos (by omega), from_f hl (by omega), Option.bind_some, hto, Option.bind_some, w1 (by omega)]
      by_cases c : gi (frs l) i = u ∧ gi (frs l) (twin (i : Int)).toNat = v
      · have hy := half_is hg (ends l).length (by omega) i (by omega)
        rw [c.1, c.2] at hy
        unfold halfOf
        rw [hy]
        refine Ev.step (f := fun _ => some (i : Int)) (fun k => ?_) (Ev.now _)
        rw [hst k, if_pos c.1, if_pos c.2]
      · refine Ev.step (fun k => ?_) (ih (i + 1) (by omega) (fun q hq => ?_))
        · rw [hst k]
          by_cases c1 : gi (frs l) i = u
          · rw [if_pos c1, if_neg (fun c2 => c ⟨c1, c2⟩)]
          · rw [if_neg c1]
        · rcases Nat.lt_succ_iff_lt_or_eq.1 hq with g | rfl
          · exact hp q g
          · exact c
  exact loop (2 * l.length) 0 (by omega) (fun q hq => by omega)
end
theorem gi_snoc {x : List Int} {h : Int} {i : Nat} (hi : i < x.length) : gi (x ++ [h]) i = gi x i := by
  unfold gi
  rw [List.getD_eq_getElem?_getD, List.getD_eq_getElem?_getD, List.getElem?_append_left hi]
theorem gi_last {x : List Int} {h : Int} {i : Nat} (hi : i = x.length) : gi (x ++ [h]) i = h := by
  subst hi
  unfold gi
  simp [List.getD_eq_getElem?_getD]
section
variable {n : Nat} {l : List Ed} {r : List (List Int)} {ds : List Int}
theorem ref_of (hg : PureV.Good (n : Int) l) (hr : Small r) (hrl : r.length = n) (hd : ∀ v, v < n → gi ds v = ((leaving (frs l) v).length : Int)) (d : Nat) : ∀ (v : Nat) (o : List (List Int)), v + d = n → o.length = v →
    Ev (fun k => tangramref11_Of.l0 k r o (v : Int) (n : Int) l) (rot_From.res (fromRows (halfOf (ends l)) ds v (r.drop v) o)) := by
  have hll := hg.2.2.1
  have hn := hg.2.1
  have hfl := frs_length l
  have hel := ends_length l
  induction d with
  | zero =>
    intro v o hv ho
    rw [List.drop_of_length_le (by omega)]
    refine Ev.step (f := fun _ => some (o, 0, 0)) (fun k => ?_) (Ev.now _)
    simp only [tangramref11_Of.l0]
    rw [if_neg (by omega)]
  | succ d ih =>
    intro v o hv ho
    have hvr : v < r.length := by omega
    have hb := hr.at hvr
    rw [drop_row hvr, fromRows_cons]
    obtain ⟨half, hhalf⟩ : ∃ half, half = halfOf (ends l) := ⟨_, rfl⟩
    have H1 : ∀ u h, half ((v : Int), u) = some h → leaves (frs l) v h = true ∧ gi (frs l) (twin h).toNat = u := by
      intro u h e
      rw [hhalf] at e
      obtain ⟨a, b, c, e2⟩ := half_some hll _ (by omega) (v : Int) u h e
      exact ⟨leaves_iff.2 ⟨a, by omega, c⟩, e2⟩
    have row : ∀ (e j : Nat) (x : List Int), j + e = (gl r v).length → x.length = j → (∀ i, i < j → half ((v : Int), gi (gl r v) i) = some (gi x i)) → x.Nodup →
        Ev (fun k => tangramref11_Of.l1 k r o (v : Int) x (j : Int) (n : Int) l) (rot_From.res (fromAfter ds v (gl r v) (fun x => fromRows half ds (v + 1) (r.drop (v + 1)) (o ++ [x])) (walkRow half v ((gl r v).drop j) x))) := by
      intro e
      induction e with
      | zero =>
        intro j x hj hx hh hnd
        obtain rfl : j = (gl r v).length := by omega
        rw [List.drop_length, show walkRow half v [] x = .ok x from rfl, fromAfter_ok]
        have hlv : ∀ y ∈ x, leaves (frs l) v y = true := by
          intro y hy
          obtain ⟨i, hi, rfl⟩ := mem_gi hy
          exact (H1 _ _ (hh i (by omega))).1
        have hle := nodup_subset x (leaving (frs l) v) hnd (fun y hy => mem_leaving.2 (hlv y hy))
        have hdv := hd v (by omega)
        refine Ev.step (f := fun k => (tangramref11_degree.f k (n : Int) l (v : Int)).bind fun t254 => if (x.length : Int) < t254 then some (([] : List (List Int)), (v : Int), 113) else (if o.length < 5864062014805 then tangramref11_Of.l0 k r (o ++ [x]) ((v + 1 : Nat) : Int) (n : Int) l else none)) (fun k => ?_) (Ev.bind (degree_ev hll v) ?_)
        · simp only [tangramref11_Of.l1]
          rw [if_pos (by omega), if_pos (by omega), rd_L, if_neg (by omega), w1 (by omega)]
        · have hc := leaving_cnt (frs l) v
          rw [hfl] at hc
          rw [← hc, hdv]
          by_cases c : ((gl r v).length : Int) = ((leaving (frs l) v).length : Int)
          · rw [if_pos c]
            refine Ev.congr (fun k => if_neg (by omega)) (Ev.congr (fun k => if_pos (by omega)) ?_)
            rw [hhalf]
            exact ih (v + 1) (o ++ [x]) (by omega) (by simp; omega)
          · rw [if_neg c]
            exact Ev.congr (fun k => if_pos (by omega)) (Ev.now _)
      | succ e ih2 =>
        intro j x hj hx hh hnd
        have hjl : j < (gl r v).length := by omega
        rw [drop_int hjl]
        obtain ⟨u, hu⟩ : ∃ u, u = gi (gl r v) j := ⟨_, rfl⟩
        rw [← hu]
        have hhe := half_ev hg (v : Int) u
        rw [← hhalf] at hhe
        have hst := stands_ev (row := gl r v) (by omega) u (j := j) (by omega)
        refine Ev.step (f := fun k => (tangramref11_Half.f k (n : Int) l (v : Int) u).bind fun t260 => if t260 < 0 then some (([] : List (List Int)), (v : Int), 111) else ((tangramref11_stands.f k (gl r v) (j : Int) u).bind fun t264 => if t264 = true then some (([] : List (List Int)), (v : Int), 112) else (if x.length < 17592186044416 then tangramref11_Of.l1 k r o (v : Int) (x ++ [t260]) ((j + 1 : Nat) : Int) (n : Int) l else none))) (fun k => ?_) (Ev.bind hhe ?_)
        · simp only [tangramref11_Of.l1]
          rw [if_pos (by omega), if_pos (by omega), rd_L, if_pos (by omega), if_pos (by omega), gi_rd, ← hu, w1 (by omega)]
        · cases hf : half ((v : Int), u) with
          | none =>
            rw [walkRow_none hf]
            exact Ev.congr (fun k => if_pos (by show (-1 : Int) < 0; omega)) (Ev.now _)
          | some h =>
            obtain ⟨q1, q2⟩ := H1 u h hf
            obtain ⟨p1, p2, p3⟩ := leaves_iff.1 q1
            have hiff : h ∈ x ↔ u ∈ (gl r v).take j := by
              constructor
              · intro g
                obtain ⟨i, hi, ei⟩ := mem_gi g
                have := (H1 _ _ (hh i (by omega))).2
                rw [ei, q2] at this
                rw [this, gi_get (by omega), List.mem_iff_getElem]
                exact ⟨i, by rw [List.length_take]; omega, by simp⟩
              · intro g
                obtain ⟨i, hi, ei⟩ := List.mem_iff_getElem.1 g
                rw [List.length_take] at hi
                rw [List.getElem_take] at ei
                have e2 := hh i (by omega)
                rw [gi_get (by omega), ei, hf] at e2
                injection e2 with e2
                rw [e2]
                exact gi_mem (by omega)
            refine Ev.congr (fun k => if_neg (show ¬ h < 0 by omega)) (Ev.bind hst ?_)
            by_cases hm : h ∈ x
            · rw [walkRow_twice hf hm]
              exact Ev.congr (fun k => if_pos (decide_eq_true (hiff.1 hm))) (Ev.now _)
            · rw [walkRow_on hf hm]
              refine Ev.congr (fun k => if_neg (by rw [decide_eq_true_eq]; exact fun g => hm (hiff.2 g))) (Ev.congr (fun k => if_pos (by omega)) (ih2 (j + 1) (x ++ [h]) (by omega) (by simp [hx]) ?_ ?_))
              · intro i hi
                rcases Nat.lt_succ_iff_lt_or_eq.1 hi with g | rfl
                · rw [gi_snoc (by omega)]; exact hh i g
                · rw [gi_last (by omega), ← hu]; exact hf
              · rw [List.nodup_append]
                refine ⟨hnd, by simp, fun a ha b hb2 => ?_⟩
                rw [List.mem_singleton] at hb2
                rintro rfl
                exact hm (by rw [← hb2]; exact ha)
    rw [← hhalf]
    have key := row (gl r v).length 0 [] (by omega) rfl (fun i hi => by omega) List.nodup_nil
    rw [List.drop_zero] at key
    refine Ev.step (fun k => ?_) key
    simp only [tangramref11_Of.l0]
    rw [if_pos (by omega)]
    rfl
end
theorem walkRow_len (half : Int × Int → Option Int) (v : Int) : ∀ (t o x : List Int), walkRow half v t o = .ok x → x.length = o.length + t.length
  | [], o, x, h => by
    have h2 : (Except.ok o : Except Int (List Int)) = .ok x := h
    injection h2 with h2; rw [← h2]; rfl
  | u :: t, o, x, h => by
    cases hh : half (v, u) with
    | none => rw [walkRow_none hh] at h; cases h
    | some y =>
      by_cases hm : y ∈ o
      · rw [walkRow_twice hh hm] at h; cases h
      · rw [walkRow_on hh hm] at h
        have := walkRow_len half v t _ x h
        simp at this ⊢; omega
theorem fromRows_rows (half : Int × Int → Option Int) (ds : List Int) : ∀ (v : Nat) (r o o' : List (List Int)), fromRows half ds v r o = .ok o' → ∀ y ∈ o', y ∈ o ∨ ∃ row ∈ r, y.length = row.length
  | v, [], o, o', h, y, hy => by
    have h2 : (Except.ok o : Except (Int × Int) (List (List Int))) = .ok o' := h
    injection h2 with h2; rw [h2]; exact .inl hy
  | v, row :: r, o, o', h, y, hy => by
    rw [fromRows_cons] at h
    cases hw : walkRow half v row [] with
    | error e => rw [hw] at h; cases h
    | ok x =>
      rw [hw, fromAfter_ok] at h
      split at h
      · rcases fromRows_rows half ds (v + 1) r _ o' h y hy with g | ⟨z, hz, g⟩
        · rcases List.mem_append.1 g with g | g
          · exact .inl g
          · rw [List.mem_singleton] at g
            have := walkRow_len half v row [] x hw
            exact .inr ⟨row, by simp, by rw [g]; simpa using this⟩
        · exact .inr ⟨z, by simp [hz], g⟩
      · cases h
/-- both answer the same -/
theorem both_from (n : Int) (l : List Ed) (r : List (List Int)) (hs : Small r) (hi : ∀ x ∈ r, ∀ y ∈ x, InI y) : ∃ res, Ev (fun k => rot_From.f k n l r) res ∧ Ev (fun k => tangramref11_Of.f k n l r) res ∧ Small res.1 := by
  obtain ⟨b, hb, hb2, hg⟩ := PureV.valid n l
  cases b with
  | false =>
    refine ⟨([], 0, 1), ?_, ?_, small_nil⟩
    · unfold rot_From.f
      exact Ev.bind hb (Ev.congr (fun k => if_neg (by decide)) (Ev.now _))
    · unfold tangramref11_Of.f
      exact Ev.bind hb2 (Ev.congr (fun k => if_neg (by decide)) (Ev.now _))
  | true =>
    by_cases hl : (r.length : Int) = n
    · have hG := hg.1 rfl
      obtain ⟨N, rfl⟩ := Int.eq_ofNat_of_zero_le hG.1
      obtain ⟨ds, hd, g1, g2⟩ := degrees_ev hG hb
      refine ⟨rot_From.res (fromRows (halfOf (ends l)) ds 0 r []), ?_, ?_, ?_⟩
      · unfold rot_From.f
        refine Ev.bind hb (Ev.congr (fun k => by rw [if_pos rfl, if_pos hl]) (Ev.bind hd (Ev.congr (fun k => ?_) (Ev.now _))))
        unfold rot_From.told
        rw [if_pos]
        · rfl
        · unfold rot_From.fit
          have h1 := hG.2.1
          have h2 := hG.2.2.1
          rw [Bool.and_eq_true, Bool.and_eq_true, List.all_eq_true, List.all_eq_true, decide_eq_true_eq]
          refine ⟨⟨hG.1, h1, h2, by simp only; omega, rfl⟩, fun x hx => ?_, fun row hrow => ?_⟩
          · obtain ⟨i, hi2, rfl⟩ := List.getElem_of_mem hx
            obtain ⟨⟨a, b, c⟩, _⟩ := hG.2.2.2 i hi2
            have e : PureV.rdE l (i : Nat) = l[i] := by
              show l.getD ((i : Int).toNat) _ = _
              rw [Int.toNat_natCast, List.getD_eq_getElem?_getD, List.getElem?_eq_getElem hi2]
              rfl
            rw [e] at a b c
            rw [decide_eq_true_eq]
            exact ⟨⟨by omega, by omega⟩, ⟨by omega, by omega⟩⟩
          · rw [Bool.and_eq_true, List.all_eq_true, decide_eq_true_eq]
            exact ⟨hs.2 row hrow, fun u hu => decide_eq_true (hi row hrow u hu)⟩
      · unfold tangramref11_Of.f
        refine Ev.bind hb2 (Ev.congr (fun k => by rw [if_pos rfl, if_pos hl]) ?_)
        have key := ref_of hG hs (by omega) g2 N 0 [] (by omega) rfl
        rw [List.drop_zero] at key
        exact key
      · cases he : fromRows (halfOf (ends l)) ds 0 r [] with
        | error ve => exact small_nil
        | ok o =>
          have hol := fromRows_len _ _ _ _ _ _ he
          have hn := hG.2.1
          refine ⟨by show o.length * 24 ≤ _; simp at hol; omega, fun y hy => ?_⟩
          rcases fromRows_rows _ _ _ _ _ _ he y hy with g | ⟨row, hrow, g⟩
          · cases g
          · rw [g]; exact hs.2 row hrow
    · refine ⟨([], 0, 110), ?_, ?_, small_nil⟩
      · unfold rot_From.f
        exact Ev.bind hb (Ev.congr (fun k => by rw [if_pos rfl, if_neg hl]) (Ev.now _))
      · unfold tangramref11_Of.f
        exact Ev.bind hb2 (Ev.congr (fun k => by rw [if_pos rfl, if_neg hl]) (Ev.now _))
end Go.Proofs.Ytkkhhbegeboonaa.Rot
/- DERIVED. What came in, opened: a datum that is read tells a value of a kind (the kit's printer's kinds), its numbers in their bounds, its lists no longer than the form's reach. -/







namespace Go.Proofs.Ytkkhhbegeboonaa.Open
open Go.RowKit Go.Proofs.YtkkhhbegeboonaaW.PrintWords Go.Proofs.YtkkhhbegeboonaaW.PrintLast Go.Proofs.YtkkhhbegeboonaaW.PrintMore Go.ChangeShapes Go.WideShapes Go.Deep
set_option linter.unusedVariables false
set_option linter.unusedSimpArgs false

/-- a number of its kind -/
def I64 (n : Int) : Prop := -9223372036854775808 ≤ n ∧ n ≤ 9223372036854775807
/-- every reading of a value of type t tells a value of kind d -/
def Opens {α : Type} (P : Program) (t : TypeId) (d : Kd α) (good : α → Prop) : Prop :=
  ∀ {H : Type} (enc : TypeId × Value → H) (w : World) (fuel : Nat) (cs : List Value) (x : DataW H × List MemPlace),
    DataW.trod enc P w 0 (fun _ => true) true fuel t cs = some x → (x.1.weights P t).all (· ≤ reachBytes) = true → ∃ v, d.K w v cs ∧ good v
section
variable {P : Program} {α β : Type}
theorem opens_int {t : TypeId} (ht : P.underlying t = some (.int .i64)) : Opens P t (Kd.int .i64) I64 := by
  intro H enc w fuel cs x h _
  obtain ⟨n, rfl, _, hw⟩ := DataW.trod_int ht h
  refine ⟨n, rfl, ?_⟩
  have hmin : IntKind.i64.min = -9223372036854775808 := rfl
  have hmax : IntKind.i64.max = 9223372036854775807 := rfl
  simp only [Lit.wf, Bool.and_eq_true, decide_eq_true_eq] at hw
  unfold I64; omega
theorem weightsAll_mem {H : Type} {e : TypeId} {l : List (DataW H)} (h : (DataW.weightsAll P e l).all (· ≤ reachBytes) = true) {d : DataW H} (hd : d ∈ l) : (d.weights P e).all (· ≤ reachBytes) = true := by
  induction l with
  | nil => cases hd
  | cons a l ih =>
    unfold DataW.weightsAll at h
    rw [List.all_append, Bool.and_eq_true] at h
    rcases List.mem_cons.1 hd with rfl | hd
    · exact h.1
    · exact ih h.2 hd
theorem opens_slice {t e : TypeId} {d : Kd α} {good : α → Prop} {B : Nat} (ht : P.underlying t = some (.slice e)) (hc : P.cellsOf e = d.sz) (hB : P.bytesOf e = B) (ho : Opens P e d good) (dflt : α) :
    Opens P t (Kd.slice e d) (fun xs => xs.length * B ≤ 140737488351232 ∧ ∀ x ∈ xs, good x) := by
  intro H enc w fuel cs x h hwt
  rcases open_slice ht h with ⟨rfl, rfl⟩ | ⟨a, len, cap, m, n, D, Pl, rfl, hb, hl, hm, hmm, rfl, hx⟩
  · exact ⟨[], ⟨none, 0, rfl, Nat.le_refl _, rfl, by simp, fun h => absurd h (by simp)⟩, by simp, by simp⟩
  · simp only [if_true] at hmm
    subst hmm
    unfold DataW.weights at hwt
    rw [ht] at hwt
    simp only [List.all_cons, List.all_append, Bool.and_eq_true, decide_eq_true_eq, List.length_map, List.length_range, hB] at hwt
    obtain ⟨hw1, hw2, _⟩ := hwt
    have each : ∀ i, i < len → ∃ v : α × List Value, v.2.length = d.sz ∧ d.K w v.1 v.2 ∧ good v.1 ∧ ∀ k u, v.2[k]? = some u → w.cell? (a.add (i * d.sz + k)) = some u := by
      intro i hi
      obtain ⟨cs', h1, h2⟩ := hx i (by omega)
      rw [hc] at h1
      obtain ⟨_, hlen, hcell⟩ := World.cells?_some h1
      obtain ⟨v, hv, hg⟩ := ho enc w n cs' _ h2 (weightsAll_mem hw2 (List.mem_map.2 ⟨i, List.mem_range.2 hi, rfl⟩))
      refine ⟨(v, cs'), hlen, hv, hg, fun k u hk => ?_⟩
      have hk2 : k < d.sz := by
        have hk3 : k < cs'.length := (List.getElem?_eq_some_iff.1 hk).1
        omega
      have := hcell k hk2
      rw [Go.Deep.add_add] at this
      rw [this]; exact hk
    haveI : Inhabited (α × List Value) := ⟨(dflt, [])⟩
    obtain ⟨q, hq⟩ := choose_lt each
    have hlen : ((List.range len).map fun i => (q i).1).length = len := by simp
    have hget : ∀ j p, ((List.range len).map fun i => (q i).1)[j]? = some p → j < len ∧ p = (q j).1 := by
      intro j p hj
      rw [List.getElem?_map] at hj
      by_cases hjl : j < len
      · rw [List.getElem?_range hjl] at hj
        exact ⟨hjl, by simpa using hj.symm⟩
      · rw [List.getElem?_eq_none (by simp; omega)] at hj; simp at hj
    refine ⟨(List.range len).map fun i => (q i).1, ⟨some a, m, by rw [hlen], by rw [hlen]; exact hl, by rw [hlen], ?_, fun _ => ⟨a, rfl, fun j p hj => ?_⟩⟩, ?_, ?_⟩
    · rw [hlen]; unfold maxLen at hm; omega
    · obtain ⟨hjl, rfl⟩ := hget j p hj
      exact ⟨(q j).2, (hq j hjl).1, (hq j hjl).2.1, (hq j hjl).2.2.2⟩
    · rw [hlen]
      have h5 : len * B ≤ (len + (m - len)) * B := Nat.mul_le_mul_right _ (by omega)
      have h6 : reachBytes = 140737488351232 := rfl
      omega
    · intro v hv
      obtain ⟨i, hi, rfl⟩ := List.mem_map.1 hv
      exact (hq i (List.mem_range.1 hi)).2.2.1
theorem opens_two {t : TypeId} {f0 f1 : Field} {a : Kd α} {b : Kd β} {ga : α → Prop} {gb : β → Prop} (ht : P.underlying t = some (.struct #[f0, f1])) (h0 : Opens P f0.type a ga) (h1 : Opens P f1.type b gb)
    (o0 : f0.offset = 0) (o1 : f1.offset = a.sz) (c0 : P.cellsOf f0.type = a.sz) (c1 : P.cellsOf f1.type = b.sz) (ct : P.cellsOf t = a.sz + b.sz) : Opens P t (Kd.pair a b) (fun x => ga x.1 ∧ gb x.2) := by
  intro H enc w fuel cs x h hwt
  obtain ⟨xs, n, _, rfl, hcl, hxl, hf⟩ := DataW.trod_struct ht h
  match xs, hxl with
  | [y0, y1], _ =>
    have g0 := hf 0 f0 rfl
    have g1 := hf 1 f1 rfl
    rw [o0, c0] at g0
    rw [o1, c1] at g1
    unfold DataW.weights at hwt
    rw [ht] at hwt
    simp only [List.map_cons, List.map_nil, DataW.weightsEach, List.all_append, Bool.and_eq_true] at hwt
    obtain ⟨hw0, hw1, _⟩ := hwt
    rw [List.drop_zero] at g0
    obtain ⟨v0, k0, q0⟩ := h0 enc w n _ y0 g0 hw0
    obtain ⟨v1, k1, q1⟩ := h1 enc w n _ y1 g1 hw1
    refine ⟨(v0, v1), ⟨_, _, ?_, k0, k1⟩, q0, q1⟩
    rw [List.take_of_length_le (l := cs.drop a.sz) (by rw [List.length_drop]; omega), List.take_append_drop]
theorem split_four {γ : Type} (cs : List γ) (a b c d : Nat) (h : cs.length = a + b + c + d) : cs = cs.take a ++ ((cs.drop a).take b ++ ((cs.drop (a + b)).take c ++ (cs.drop (a + b + c)).take d)) := by
  have h1 : (cs.drop (a + b + c)).take d = cs.drop (a + b + c) := List.take_of_length_le (by rw [List.length_drop]; omega)
  have h2 : cs.drop (a + b) = (cs.drop (a + b)).take c ++ cs.drop (a + b + c) := by rw [← List.drop_drop (l := cs) (i := c) (j := a + b), List.take_append_drop]
  have h3 : cs.drop a = (cs.drop a).take b ++ cs.drop (a + b) := by rw [← List.drop_drop (l := cs) (i := b) (j := a), List.take_append_drop]
  rw [h1, ← h2, ← h3, List.take_append_drop]
theorem opens_four {γ δ : Type} {t : TypeId} {f0 f1 f2 f3 : Field} {a : Kd α} {b : Kd β} {c : Kd γ} {d : Kd δ} {ga : α → Prop} {gb : β → Prop} {gc : γ → Prop} {gd : δ → Prop} (ht : P.underlying t = some (.struct #[f0, f1, f2, f3])) (h0 : Opens P f0.type a ga) (h1 : Opens P f1.type b gb) (h2 : Opens P f2.type c gc) (h3 : Opens P f3.type d gd)
    (o0 : f0.offset = 0) (o1 : f1.offset = a.sz) (o2 : f2.offset = a.sz + b.sz) (o3 : f3.offset = a.sz + b.sz + c.sz) (c0 : P.cellsOf f0.type = a.sz) (c1 : P.cellsOf f1.type = b.sz) (c2 : P.cellsOf f2.type = c.sz) (c3 : P.cellsOf f3.type = d.sz) (ct : P.cellsOf t = a.sz + b.sz + c.sz + d.sz) : Opens P t (Kd.pair a (Kd.pair b (Kd.pair c d))) (fun x => ga x.1 ∧ gb x.2.1 ∧ gc x.2.2.1 ∧ gd x.2.2.2) := by
  intro H enc w fuel cs x h hwt
  obtain ⟨xs, n, _, rfl, hcl, hxl, hf⟩ := DataW.trod_struct ht h
  match xs, hxl with
  | [y0, y1, y2, y3], _ =>
    have g0 := hf 0 f0 rfl
    have g1 := hf 1 f1 rfl
    have g2 := hf 2 f2 rfl
    have g3 := hf 3 f3 rfl
    rw [o0, c0] at g0
    rw [o1, c1] at g1
    rw [o2, c2] at g2
    rw [o3, c3] at g3
    unfold DataW.weights at hwt
    rw [ht] at hwt
    simp only [List.map_cons, List.map_nil, DataW.weightsEach, List.all_append, Bool.and_eq_true] at hwt
    obtain ⟨hw0, hw1, hw2, hw3, _⟩ := hwt
    rw [List.drop_zero] at g0
    obtain ⟨v0, k0, q0⟩ := h0 enc w n _ y0 g0 hw0
    obtain ⟨v1, k1, q1⟩ := h1 enc w n _ y1 g1 hw1
    obtain ⟨v2, k2, q2⟩ := h2 enc w n _ y2 g2 hw2
    obtain ⟨v3, k3, q3⟩ := h3 enc w n _ y3 g3 hw3
    refine ⟨(v0, v1, v2, v3), ⟨_, _, ?_, k0, _, _, rfl, k1, _, _, rfl, k2, k3⟩, q0, q1, q2, q3⟩
    exact split_four cs _ _ _ _ (by omega)
theorem opens_iso {t : TypeId} {d : Kd α} {good : α → Prop} {f : β → α} (g : α → β) (hg : ∀ x, f (g x) = x) (h : Opens P t d good) : Opens P t (Kd.iso d f) (fun y => good (f y)) := by
  intro H enc w fuel cs x hx hw
  obtain ⟨v, k, q⟩ := h enc w fuel cs x hx hw
  exact ⟨g v, by show d.K w (f (g v)) cs; rw [hg]; exact k, by show good (f (g v)); rw [hg]; exact q⟩
/-- an argument -/
theorem open_arg {H : Type} {enc : TypeId × Value → H} {w : World} {t : TypeId} {d : Kd α} {good : α → Prop} {v : Value} {dd : DataW H} {ps : List MemPlace} (ho : Opens P t d good) (h : DataW.Trod enc P w 0 (fun _ => true) true t v dd ps)
    (hw : (dd.weights P t).all (· ≤ reachBytes) = true) : ∃ x, d.K w x v.cells.toList ∧ good x := by
  obtain ⟨fuel, hf⟩ := h
  exact ho enc w fuel _ _ hf hw
/-- the weights of the j-th argument -/
theorem weight_at {H : Type} {ts : List TypeId} {ds : List (DataW H)} (h : (DataW.weightsEach P ts ds).all (· ≤ reachBytes) = true) : ∀ {j : Nat} {t : TypeId} {d : DataW H}, ts[j]? = some t → ds[j]? = some d → (d.weights P t).all (· ≤ reachBytes) = true := by
  induction ts generalizing ds with
  | nil => intro j t d ht; simp at ht
  | cons a ts ih =>
    cases ds with
    | nil => intro j t d _ hd; simp at hd
    | cons b ds =>
      unfold DataW.weightsEach at h
      rw [List.all_append, Bool.and_eq_true] at h
      intro j t d ht hd
      cases j with
      | zero =>
        obtain rfl : a = t := by simpa using ht
        obtain rfl : b = d := by simpa using hd
        exact h.1
      | succ j => exact ih h.2 (by simpa using ht) (by simpa using hd)
theorem of_slice {w : World} {e : Nat} {d : Kd α} {xs : List α} {A : Option Addr} {n c : Nat} (h : (Kd.slice e d).K w xs [.slice A n c]) : n = xs.length ∧ xs.length ≤ c ∧ d.C w A xs.length xs := by
  obtain ⟨A', c', he, hl, hc⟩ := h
  simp only [List.cons.injEq, Value.slice.injEq, and_true] at he
  obtain ⟨rfl, rfl, rfl⟩ := he
  exact ⟨rfl, hl, hc⟩
end
end Go.Proofs.Ytkkhhbegeboonaa.Open
/- DERIVED. The law RotFrom, walked. -/



namespace Go.Proofs.Ytkkhhbegeboonaa.Rot
open Go.RowKit Go.Proofs.YtkkhhbegeboonaaW.PrintWords Go.Proofs.YtkkhhbegeboonaaW.PrintLast Go.Proofs.YtkkhhbegeboonaaW.PrintMore Go.Proofs.Ytkkhhbegeboonaa.GAll Go.Proofs.Ytkkhhbegeboonaa.Mem
set_option linter.unusedVariables false
set_option linter.unusedSimpArgs false
set_option maxHeartbeats 2000000 in
theorem from_walk (k : Nat) (n : Int) (A : Option Addr) (c : Nat) (l : List Ed) (A1 : Option Addr) (c1 : Nat) (r : List (List Int)) (w : World) (hr : Kd.C k59 w A l.length l) (hc : l.length ≤ c) (hr1 : Kd.C (Kd.slice 3 (Kd.int .i64)) w A1 r.length r) (hc1 : r.length ≤ c1)
    (o : List (List Int)) (v0 e0 : Int) (h1 : rot_From.f k n l r = some (o, v0, e0)) (h2 : tangramref11_Of.f k n l r = some (o, v0, e0)) (h3 : tangramref11_Equal.f k o o = some true) :
    Calls Try.prog 5 #[.agg #[.int .i64 n, .slice A l.length c], .slice A1 r.length c1] w fun e w' => e = .returned (.bool true) ∧ Below w.heap.size w w' := by
  have HX := Aside0.mk (heap_last w (.cells #[.int .i64 n, .slice A l.length c] 24 (0, 0)))
  have HB : Aside0 (Below w.heap.size w (w.alloc (.cells #[.int .i64 n, .slice A l.length c] 24 (0, 0)))) := ⟨(Below.refl _ _).alloc (Nat.le_refl _) _⟩
  have HR := Aside0.mk hr
  have HR1 := Aside0.mk hr1
  have H1 := Aside0.mk h1
  have H2 := Aside0.mk h2
  have H3 := Aside0.mk h3
  have HCC := Aside0.mk hc
  have HCC1 := Aside0.mk hc1
  clear hr hr1 h1 h2 h3 hc hc1
  go_enter Try.func5, Try.ntmps5
  go_wp2_with fail
  refine (tangramlaw11_fixed.calls true _ rfl).mono ?_
  rintro e w1 ⟨rfl, hb⟩
  have HB1 := Aside0.mk (HB.out.trans (hb.mono HB.out.size))
  have HX1 := Aside0.mk ((hb.block _ (lt_of HX.out)).trans HX.out)
  clear hb HB HX
  first | clear x0 x1 | skip
  have x0 : w1.cell? ⟨w.heap.size, 0, none⟩ = some (.int .i64 n) := heap_cell HX1.out rfl
  have x1 : w1.cell? ⟨w.heap.size, 1, none⟩ = some (.slice A l.length c) := heap_cell HX1.out rfl
  go_wp2_with fail
  refine (rot_From.calls k n A c l A1 c1 r o v0 e0 w1 (Kd.C_below HR.out HB1.out) HCC.out (Kd.C_below HR1.out HB1.out) HCC1.out H1.out).mono ?_
  rintro e w2 ⟨v2, rfl, hR, hb⟩
  have HB2 := Aside0.mk (HB1.out.trans (hb.mono HB1.out.size))
  have HX2 := Aside0.mk ((hb.block _ (lt_of HX1.out)).trans HX1.out)
  clear hb HB1 HX1
  first | clear x0 x1 | skip
  have x0 : w2.cell? ⟨w.heap.size, 0, none⟩ = some (.int .i64 n) := heap_cell HX2.out rfl
  have x1 : w2.cell? ⟨w.heap.size, 1, none⟩ = some (.slice A l.length c) := heap_cell HX2.out rfl
  obtain ⟨A2, c2, rfl, hcc, hC⟩ := Kd.S_reads hR
  have HC2 := Aside0.mk hcc
  have HA2 := Aside0.mk hC
  clear hR hC hcc
  go_wp2_with fail
  refine (tangramref11_Of.calls k n A c l A1 c1 r o v0 e0 w2 (Kd.C_below HR.out HB2.out) HCC.out (Kd.C_below HR1.out HB2.out) HCC1.out H2.out).mono ?_
  rintro e w3 ⟨v3, rfl, hR, hb⟩
  have HA3 := Aside0.mk (Kd.C_below HA2.out hb)
  have HB3 := Aside0.mk (HB2.out.trans (hb.mono HB2.out.size))
  clear hb x0 x1
  obtain ⟨A3, c3, rfl, hcc, hC⟩ := Kd.S_reads hR
  have HC3 := Aside0.mk hcc
  have HE3 := Aside0.mk hC
  clear hR hC hcc HA2
  go_wp2_with fail
  refine (tangramref11_Equal.calls k A2 c2 o A3 c3 o true w3 HA3.out HC2.out HE3.out HC3.out H3.out).mono ?_
  rintro e w4 ⟨rfl, hd⟩
  have HB4 := Aside0.mk (HB3.out.trans (hd.below.mono HB3.out.size))
  clear hd
  go_wp2_with fail
  go_ret
  exact ⟨rfl, HB4.out⟩
theorem RotFrom (a0_0 : Int) (A0_1 : Option Addr) (c0_1 : Nat) (l0_1 : List Ed) (A1 : Option Addr) (c1 : Nat) (l1 : List (List Int)) (w : World) (hr0_1 : Kd.C k59 w A0_1 l0_1.length l0_1) (hc0_1 : l0_1.length ≤ c0_1) (hr1 : Kd.C (Kd.slice 3 (Kd.int .i64)) w A1 l1.length l1) (hc1 : l1.length ≤ c1) {P0 : Prop} (g0 : P0)
    (g1 : l1.length * 24 ≤ 140737488351232 ∧ ∀ x ∈ l1, x.length * 8 ≤ 140737488351232 ∧ ∀ y ∈ x, Open.I64 y) :
    Calls Try.prog 5 #[.agg #[.int .i64 a0_0, .slice A0_1 l0_1.length c0_1], .slice A1 l1.length c1] w fun e w' => e = .returned (.bool true) ∧ Below w.heap.size w w' := by
  obtain ⟨⟨o, v0, e0⟩, ⟨K1, h1⟩, ⟨K2, h2⟩, h3⟩ := both_from a0_0 l0_1 l1 ⟨g1.1, fun l hl => (g1.2 l hl).1⟩ (fun x hx y hy => (g1.2 x hx).2 y hy)
  have hE := equal_ev (x := o) (y := o) h3
  rw [decide_eq_true rfl] at hE
  obtain ⟨K3, h4⟩ := hE
  exact from_walk (K1 + K2 + K3) a0_0 A0_1 c0_1 l0_1 A1 c1 l1 w hr0_1 hc0_1 hr1 hc1 o v0 e0 (h1 _ (by omega)) (h2 _ (by omega)) (h4 _ (by omega))
end Go.Proofs.Ytkkhhbegeboonaa.Rot
