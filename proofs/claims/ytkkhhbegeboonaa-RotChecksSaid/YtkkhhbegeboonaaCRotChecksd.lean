/- DERIVED. Texts of this seat, one behind the other: lemmas and walks that the statement RotChecks needs. No condition. -/
import Derived.Test.YtkkhhbegeboonaaCRotChecksa
import Derived.Test.YtkkhhbegeboonaaCRotChecksc
import Derived.Test.YtkkhhbegeboonaaCRotChecksb
-- Written by a program of this session (wip/tools/printx.py) over the kit's printer and texts of its own; it is no print of print.sh.



namespace Go.Proofs.Ytkkhhbegeboonaa.GAll
open Go.RowKit Go.Proofs.YtkkhhbegeboonaaW.PrintWords Go.Proofs.YtkkhhbegeboonaaW.PrintLast Go.Proofs.YtkkhhbegeboonaaW.PrintMore
attribute [local go_sem] max2_int min2_int max_two min_two max_three min_three max_four min_four   -- for this text's walks alone
set_option linter.unusedVariables false
set_option linter.unusedSimpArgs false

/-! ### tangramref11_Check: function 16 -/
mutual
def tangramref11_Check.l0 : Nat → List (List Int) → Int → Int → List (S59) → Option (Int × Int)
  | 0, _, _, _, _ => none
  | k + 1, x1, x6, x184000, x184001 => if x6 < x184000 then (tangramref11_Check.l1 k x1 x6 0 x184000 x184001) else (some (0, 0))
def tangramref11_Check.l1 : Nat → List (List Int) → Int → Int → Int → List (S59) → Option (Int × Int)
  | 0, _, _, _, _, _ => none
  | k + 1, x1, x6, x7, x184000, x184001 => if 0 ≤ x6 then (if x6 < (x1.length : Int) then (if x7 < ((rd_L4 x1 x6).length : Int) then (if 0 ≤ x7 then ((tangramref11_leaves.f x184000 x184001 (rd (rd_L4 x1 x6) x7) x6).bind fun t190 => (if t190 = true then ((tangramref11_stands.f k (rd_L4 x1 x6) x7 (rd (rd_L4 x1 x6) x7)).bind fun t194 => (if t194 = true then (some (x6, 112)) else (tangramref11_Check.l1 k x1 x6 (wrap64 (x7 + 1)) x184000 x184001))) else (some (x6, 111)))) else (none)) else ((tangramref11_degree.f k x184000 x184001 x6).bind fun t187 => (if ((rd_L4 x1 x6).length : Int) < t187 then (some (x6, 113)) else (tangramref11_Check.l0 k x1 (wrap64 (x6 + 1)) x184000 x184001)))) else (none)) else (none)
end
def tangramref11_Check.f (k : Nat) (a0_0 : Int) (l0_1 : List (S59)) (l1 : List (List Int)) : Option (Int × Int) := (tangramref03_Valid.f k a0_0 l0_1).bind fun t184 => (if t184 = true then (if (l1.length : Int) = a0_0 then (tangramref11_Check.l0 k l1 0 a0_0 l0_1) else (some (0, 110))) else (some (0, 1)))
theorem tangramref11_Check.mono_l : ∀ k, (∀ y0 y1 y2 y3, LeO (tangramref11_Check.l0 k y0 y1 y2 y3) (tangramref11_Check.l0 (k + 1) y0 y1 y2 y3)) ∧ (∀ y0 y1 y2 y3 y4, LeO (tangramref11_Check.l1 k y0 y1 y2 y3 y4) (tangramref11_Check.l1 (k + 1) y0 y1 y2 y3 y4))
  | 0 => ⟨fun _ _ _ _ r h => by simp [tangramref11_Check.l0] at h, fun _ _ _ _ _ r h => by simp [tangramref11_Check.l1] at h⟩
  | k + 1 => by
    obtain ⟨ih0, ih1⟩ := tangramref11_Check.mono_l k
    refine ⟨?_, ?_⟩
    · intro y0 y1 y2 y3
      unfold tangramref11_Check.l0
      repeat' first
      | (with_reducible exact ih0 _ _ _ _)
      | (with_reducible exact ih1 _ _ _ _ _)
      | (with_reducible exact tangramref03_Valid.mono _ _ _)
      | (with_reducible exact tangramref11_degree.mono _ _ _ _)
      | (with_reducible exact tangramref11_stands.mono _ _ _ _)
      | (with_reducible exact LeO.refl _)
      | (with_reducible exact LeO.none _)
      | (with_reducible refine LeO.ite ?_ ?_)
      | (with_reducible refine LeO.bind ?_ (fun _ => ?_))
      | exact ih0 _ _ _ _
      | exact ih1 _ _ _ _ _
      | exact tangramref03_Valid.mono _ _ _
      | exact tangramref11_degree.mono _ _ _ _
      | exact tangramref11_stands.mono _ _ _ _
      | exact LeO.none _
      | refine LeO.ite ?_ ?_
      | refine LeO.bind ?_ (fun _ => ?_)
    · intro y0 y1 y2 y3 y4
      unfold tangramref11_Check.l1
      repeat' first
      | (with_reducible exact ih0 _ _ _ _)
      | (with_reducible exact ih1 _ _ _ _ _)
      | (with_reducible exact tangramref03_Valid.mono _ _ _)
      | (with_reducible exact tangramref11_degree.mono _ _ _ _)
      | (with_reducible exact tangramref11_stands.mono _ _ _ _)
      | (with_reducible exact LeO.refl _)
      | (with_reducible exact LeO.none _)
      | (with_reducible refine LeO.ite ?_ ?_)
      | (with_reducible refine LeO.bind ?_ (fun _ => ?_))
      | exact ih0 _ _ _ _
      | exact ih1 _ _ _ _ _
      | exact tangramref03_Valid.mono _ _ _
      | exact tangramref11_degree.mono _ _ _ _
      | exact tangramref11_stands.mono _ _ _ _
      | exact LeO.none _
      | refine LeO.ite ?_ ?_
      | refine LeO.bind ?_ (fun _ => ?_)
theorem tangramref11_Check.mono : ∀ a0 a1 a2 k, LeO (tangramref11_Check.f k a0 a1 a2) (tangramref11_Check.f (k + 1) a0 a1 a2) := by
  intro a0 a1 a2 k
  obtain ⟨ih0, ih1⟩ := tangramref11_Check.mono_l k
  unfold tangramref11_Check.f
  repeat' first
      | (with_reducible exact ih0 _ _ _ _)
      | (with_reducible exact ih1 _ _ _ _ _)
      | (with_reducible exact tangramref03_Valid.mono _ _ _)
      | (with_reducible exact tangramref11_degree.mono _ _ _ _)
      | (with_reducible exact tangramref11_stands.mono _ _ _ _)
      | (with_reducible exact LeO.refl _)
      | (with_reducible exact LeO.none _)
      | (with_reducible refine LeO.ite ?_ ?_)
      | (with_reducible refine LeO.bind ?_ (fun _ => ?_))
      | exact ih0 _ _ _ _
      | exact ih1 _ _ _ _ _
      | exact tangramref03_Valid.mono _ _ _
      | exact tangramref11_degree.mono _ _ _ _
      | exact tangramref11_stands.mono _ _ _ _
      | exact LeO.none _
      | refine LeO.ite ?_ ?_
      | refine LeO.bind ?_ (fun _ => ?_)
def tangramref11_Check.T11 : Bool × List (List Nat × List Nat) := (true, [([], []), ([], []), ([], []), ([1, 2], [1, 2]), ([3], [3]), ([], []), ([4, 5], [4, 5]), ([6], [6]), ([], []), ([0, 7, 8], [0, 7, 8]), ([9], [9])])
def tangramref11_Check.B11 : List Nat := [0, 0, 0, 6, 14, 0, 62, 126, 0, 511, 1023]
theorem tangramref11_Check.tab11 : rtab .any (opsOf Try.f16 11) = tangramref11_Check.T11 := by kernel_rfl
theorem tangramref11_Check.bits11 : waitsOk tangramref11_Check.T11.2 tangramref11_Check.B11 = true := by kernel_rfl
def tangramref11_Check.T13 : Bool × List (List Nat × List Nat) := (true, [([], []), ([], []), ([0, 1], [0, 1]), ([2], [2]), ([], []), ([], []), ([], []), ([5, 6], [5, 6]), ([7], [7]), ([], []), ([8, 9], [8, 9]), ([10], [10]), ([3, 4, 11], [3, 4, 11])])
def tangramref11_Check.B13 : List Nat := [0, 0, 3, 7, 0, 0, 0, 96, 224, 0, 992, 2016, 4095]
theorem tangramref11_Check.tab13 : rtab .any (opsOf Try.f16 13) = tangramref11_Check.T13 := by kernel_rfl
theorem tangramref11_Check.bits13 : waitsOk tangramref11_Check.T13.2 tangramref11_Check.B13 = true := by kernel_rfl
def tangramref11_Check.T15 : Bool × List (List Nat × List Nat) := (true, [([], []), ([], []), ([0, 1], [0, 1]), ([2], [2]), ([3], [3]), ([], []), ([], []), ([5, 6], [5, 6]), ([4, 7], [4, 7])])
def tangramref11_Check.B15 : List Nat := [0, 0, 3, 7, 15, 0, 0, 96, 255]
theorem tangramref11_Check.tab15 : rtab .any (opsOf Try.f16 15) = tangramref11_Check.T15 := by kernel_rfl
theorem tangramref11_Check.bits15 : waitsOk tangramref11_Check.T15.2 tangramref11_Check.B15 = true := by kernel_rfl
set_option maxHeartbeats 8000000 in
set_option maxRecDepth 100000 in
theorem tangramref11_Check.calls (k : Nat) (a0_0 : Int) (A0_1 : Option Addr) (c0_1 : Nat) (l0_1 : List (S59)) (A1 : Option Addr) (c1 : Nat) (l1 : List (List Int)) (r1 : Int) (r2 : Int) (w : World) (hr0_1 : Kd.C k59 w A0_1 l0_1.length l0_1) (hc0_1 : l0_1.length ≤ c0_1) (hr1 : Kd.C (Kd.slice 3 (Kd.int .i64)) w A1 l1.length l1) (hc1 : l1.length ≤ c1) (h : tangramref11_Check.f k a0_0 l0_1 l1 = some (r1, r2)) :
    Calls Try.prog 16 #[.agg #[.int .i64 a0_0, .slice A0_1 l0_1.length c0_1], .slice A1 l1.length c1] w fun e w' => e = .returned (.tuple #[.int .i64 r1, .int .i64 r2]) ∧ Below w.heap.size w w' := by
  have hu24 := Try.underlying24
  have HR0_1 := Aside0.mk hr0_1
  have HC0_1 := Aside0.mk hc0_1
  clear hr0_1 hc0_1
  have HR1 := Aside0.mk hr1
  have HC1 := Aside0.mk hc1
  clear hr1 hc1
  have HB := Aside0.mk (Below.refl w.heap.size w)
  have H : ((tangramref03_Valid.f k a0_0 l0_1).bind fun t184 => (if t184 = true then (if (l1.length : Int) = a0_0 then (tangramref11_Check.l0 k l1 0 a0_0 l0_1) else (some (0, 110))) else (some (0, 1)))) = some (r1, r2) := h
  clear h
  replace H := Option.bind_eq_some_iff.mp H
  obtain ⟨t184, A30, H⟩ := H
  replace H : (if t184 = true then (if (l1.length : Int) = a0_0 then (tangramref11_Check.l0 k l1 0 a0_0 l0_1) else (some (0, 110))) else (some (0, 1))) = some (r1, r2) := H
  have A3 := Aside0.mk A30
  clear A30
  by_cases c4 : t184 = true
  · subst c4
    have H1 : (if (l1.length : Int) = a0_0 then (tangramref11_Check.l0 k l1 0 a0_0 l0_1) else (some (0, 110))) = some (r1, r2) := by rw [if_pos rfl] at H; exact H
    clear H
    have H := H1
    clear H1
    by_cases c5 : (l1.length : Int) = a0_0
    · rw [if_pos c5] at H
      have c5b0 : ((l1.length : Int) == a0_0) = true := beq_iff_eq.mpr c5
      have c5b1 : ((l1.length : Int) != a0_0) = false := bne_eq_false_iff_eq.mpr c5
      clear c5
      have H' := Aside0.mk H
      clear H
      go_enter Try.func16, Try.ntmps16
      go_wp2_with (first | ((with_reducible refine gate_dst (N := 2) rfl ?_); refine box_event ?hg (N := 2) ?hd (cs := #[.int .i64 a0_0, .slice A0_1 l0_1.length c0_1]) (t := 24) ?hr ?_; (case hd => rfl); (case hg => rfl); (case hr => first | (go_simp; done) | (go_simp; rfl)); intro gb183 hg w6 hbox hb; have n0_ := Aside0.mk (below_step (by repeat (first | (with_reducible first | exact HB.out | apply below_alloc | apply pw_below_drewN | apply below_drew1) | exact HB.out)) hb); have n1_ := Aside0.mk (hbox); have n2_ := Aside0.mk ((by rw [hg]; exact (below_size (by repeat (first | (with_reducible first | exact HB.out | apply below_alloc | apply pw_below_drewN | apply below_drew1) | exact HB.out))) : w.heap.size ≤ gb183)); have n3_ := Aside0.mk ((by rw [hg]; exact (below_size (by repeat (first | (with_reducible first | exact HB.out | apply below_alloc | apply pw_below_drewN | apply below_drew1) | exact HB.out))) : w.heap.size ≤ gb183)); clear HB; have HB := n0_; have BK183 := n1_; have GW183 := n2_; have GE183 := n3_; clear n0_ n1_ n2_ n3_; clear hb hbox hg; have hcz7_0 : w6.cell? ⟨gb183, 0, none⟩ = some (.int .i64 a0_0) := (blk_cell BK183.out 0).trans rfl; have hcz7_1 : w6.cell? ⟨gb183, 1, none⟩ = some (.slice A0_1 l0_1.length c0_1) := (blk_cell BK183.out 1).trans rfl; have hfz7_0 := blk_frozen BK183.out 0; have hfz7_1 := blk_frozen BK183.out 1) | ((with_reducible refine gate_callee (f := 13) rfl ?_); refine goesL_ (some 9) rfl rfl Try.func13 (by kernel_rfl) rfl #[.agg #[.int .i64 a0_0, .slice A0_1 l0_1.length c0_1]] rfl (by (try simp only [List.map_toArray, List.map_cons, List.map_nil]); first | done | rfl | (simp only [List.length_drop, List.length_take]; rfl)) ?_; (with_reducible refine (tangramref03_Valid.calls k a0_0 _ _ l0_1 true _ ?side1 ?side2 A3.out).mono ?_); (case side1 => repeat (first | exact (Kd.C_below HR0_1.out HB.out) | (with_reducible refine Kd.C_alloc ?_ _) | (with_reducible refine Kd.C_drewN ?_ _) | (with_reducible refine Kd.C_drew ?_))); (case side2 => exact HC0_1.out); rintro e w8 ⟨rfl, hb⟩; refine ⟨_, rfl, ?_⟩; have n0_ := Aside0.mk (blk_below (g := gb183) (o := .cells #[.int .i64 a0_0, .slice A0_1 l0_1.length c0_1] 24 (0, 0)) (by (with_reducible repeat (first | refine blk_drewN ?_ _ | refine blk_drew ?_ | refine blk_alloc ?_ _)); exact BK183.out) hb); have n1_ := Aside0.mk (below_step (by repeat (first | (with_reducible first | exact HB.out | apply below_alloc | apply pw_below_drewN | apply below_drew1 | refine below_set ?_ GE183.out) | exact HB.out)) hb); clear BK183; clear HB; have BK183 := n0_; have HB := n1_; clear n0_ n1_; (try clear hb); (try clear hb2); (try clear hk); (try clear hi); have hcz9_0 : w8.cell? ⟨gb183, 0, none⟩ = some (.int .i64 a0_0) := (blk_cell BK183.out 0).trans rfl; have hcz9_1 : w8.cell? ⟨gb183, 1, none⟩ = some (.slice A0_1 l0_1.length c0_1) := (blk_cell BK183.out 1).trans rfl; have hfz9_0 := blk_frozen BK183.out 0; have hfz9_1 := blk_frozen BK183.out 1))
      go_loopg [6] k (fun kq v6 w' => ∃ (x6_1 : Int), v6 = .int .i64 x6_1 ∧ Aside0 (tangramref11_Check.l0 kq l1 x6_1 a0_0 l0_1 = some (r1, r2)) ∧ Aside0 (kq ≤ k) ∧ Aside0 (w'.heap[gb183]? = some (.cells #[.int .i64 a0_0, (.slice A0_1 l0_1.length c0_1)] 24 (0, 0))) ∧ Aside0 (Below w.heap.size w w'))
      case atStart => exact ⟨(0), (by first | rfl | (simp; done) | (simp [*]; done)), H', ⟨Nat.le_refl _⟩, ⟨by (with_reducible repeat (first | refine blk_drewN ?_ _ | refine blk_drew ?_ | refine blk_alloc ?_ _)); exact BK183.out⟩, ⟨by repeat (first | (with_reducible first | exact HB.out | apply below_alloc | apply pw_below_drewN | apply below_drew1 | refine below_set ?_ GE183.out) | exact HB.out)⟩⟩
      case round =>
        clear H'
        try clear c1
        try clear p2
        try clear c4
        try clear c5
        try clear c5b0
        try clear c5b1
        try clear hcz7_0
        try clear hcz7_1
        try clear hcz9_0
        try clear hcz9_1
        try clear hfz7_0
        try clear hfz7_1
        try clear hfz9_0
        try clear hfz9_1
        obtain ⟨x6_1, rfl, HA, HK1, BK183, HB⟩ := hrel
        cases gk with
        | zero => exact absurd HA.out (by simp [tangramref11_Check.l0])
        | succ k1 =>
          have H := HA.out
          clear HA
          simp only [tangramref11_Check.l0] at H
          by_cases c10 : x6_1 < a0_0
          · rw [if_pos c10] at H
            have c10b0 : decide (x6_1 < a0_0) = true := decide_eq_true c10
            clear c10
            have H' := Aside0.mk H
            clear H
            have hcz11_0 : wr.cell? ⟨gb183, 0, none⟩ = some (.int .i64 a0_0) := (blk_cell BK183.out 0).trans rfl
            have hcz11_1 : wr.cell? ⟨gb183, 1, none⟩ = some (.slice A0_1 l0_1.length c0_1) := (blk_cell BK183.out 1).trans rfl
            have hfz11_0 := blk_frozen BK183.out 0
            have hfz11_1 := blk_frozen BK183.out 1
            go_wp2
            go_loopg [7] k1 (fun kq v7 w' => ∃ (x7_2 : Int), v7 = .int .i64 x7_2 ∧ Aside0 (tangramref11_Check.l1 kq l1 x6_1 x7_2 a0_0 l0_1 = some (r1, r2)) ∧ Aside0 (kq ≤ k1) ∧ Aside0 (w'.heap[gb183]? = some (.cells #[.int .i64 a0_0, (.slice A0_1 l0_1.length c0_1)] 24 (0, 0))) ∧ Aside0 (Below w.heap.size w w'))
            case atStart => exact ⟨(0), (by first | rfl | (simp; done) | (simp [*]; done)), H', ⟨Nat.le_refl _⟩, ⟨by (with_reducible repeat (first | refine blk_drewN ?_ _ | refine blk_drew ?_ | refine blk_alloc ?_ _)); exact BK183.out⟩, ⟨by repeat (first | (with_reducible first | exact HB.out | apply below_alloc | apply pw_below_drewN | apply below_drew1 | refine below_set ?_ GE183.out) | exact HB.out)⟩⟩
            case round =>
              clear H'
              try clear c1
              try clear p2
              try clear c4
              try clear c5
              try clear c5b0
              try clear c5b1
              try clear c10
              try clear c10b0
              try clear hcz11_0
              try clear hcz11_1
              try clear hcz7_0
              try clear hcz7_1
              try clear hcz9_0
              try clear hcz9_1
              try clear hfz11_0
              try clear hfz11_1
              try clear hfz7_0
              try clear hfz7_1
              try clear hfz9_0
              try clear hfz9_1
              try clear p2
              obtain ⟨x7_2, rfl, HA, HK2, BK183, HB⟩ := hrel
              cases gk with
              | zero => exact absurd HA.out (by simp [tangramref11_Check.l1])
              | succ k2 =>
                have H := HA.out
                clear HA
                simp only [tangramref11_Check.l1] at H
                by_cases c12 : 0 ≤ x6_1
                · rw [if_pos c12] at H
                  have c12b0 : decide (0 ≤ x6_1) = true := decide_eq_true c12
                  clear c12
                  by_cases c13 : x6_1 < (l1.length : Int)
                  · rw [if_pos c13] at H
                    have c13b0 : decide (x6_1 < (l1.length : Int)) = true := decide_eq_true c13
                    clear c13
                    by_cases c14 : x7_2 < ((rd_L4 l1 x6_1).length : Int)
                    · rw [if_pos c14] at H
                      have c14b0 : decide (x7_2 < ((rd_L4 l1 x6_1).length : Int)) = true := decide_eq_true c14
                      clear c14
                      by_cases c15 : 0 ≤ x7_2
                      · rw [if_pos c15] at H
                        have c15b0 : decide (0 ≤ x7_2) = true := decide_eq_true c15
                        clear c15
                        replace H := Option.bind_eq_some_iff.mp H
                        obtain ⟨t190, A160, H⟩ := H
                        replace H : (if t190 = true then ((tangramref11_stands.f k2 (rd_L4 l1 x6_1) x7_2 (rd (rd_L4 l1 x6_1) x7_2)).bind fun t194 => (if t194 = true then (some (x6_1, 112)) else (tangramref11_Check.l1 k2 l1 x6_1 (wrap64 (x7_2 + 1)) a0_0 l0_1))) else (some (x6_1, 111))) = some (r1, r2) := H
                        have A16 := Aside0.mk A160
                        clear A160
                        by_cases c17 : t190 = true
                        · subst c17
                          have H1 : ((tangramref11_stands.f k2 (rd_L4 l1 x6_1) x7_2 (rd (rd_L4 l1 x6_1) x7_2)).bind fun t194 => (if t194 = true then (some (x6_1, 112)) else (tangramref11_Check.l1 k2 l1 x6_1 (wrap64 (x7_2 + 1)) a0_0 l0_1))) = some (r1, r2) := by rw [if_pos rfl] at H; exact H
                          clear H
                          have H := H1
                          clear H1
                          replace H := Option.bind_eq_some_iff.mp H
                          obtain ⟨t194, A180, H⟩ := H
                          replace H : (if t194 = true then (some (x6_1, 112)) else (tangramref11_Check.l1 k2 l1 x6_1 (wrap64 (x7_2 + 1)) a0_0 l0_1)) = some (r1, r2) := H
                          have A18 := Aside0.mk A180
                          clear A180
                          by_cases c19 : t194 = true
                          · subst c19
                            have H1 : (some (x6_1, 112)) = some (r1, r2) := by rw [if_pos rfl] at H; exact H
                            clear H
                            have H := H1
                            clear H1
                            simp only [Option.some.injEq, Prod.mk.injEq] at H
                            obtain ⟨rfl, rfl⟩ := H
                            have p185 : 0 ≤ (x6_1 : Int) := of_decide_eq_true (by first | (with_reducible assumption) | assumption)
                            have q185 : x6_1 < (l1.length : Int) := of_decide_eq_true (by first | (with_reducible assumption) | assumption)
                            obtain ⟨ad185, A185_0, c185_0, e185, hx185_0, hl185_0, hi185_0⟩ := at_L4 HR1.out x6_1 p185 q185
                            cases e185
                            replace hx185_0 := (HB.out.cell (World.block_lt_of_cell? w _ hx185_0)).trans hx185_0
                            have HR185_0 := Aside0.mk hi185_0
                            have HC185_0 := Aside0.mk hl185_0
                            clear hi185_0 hl185_0
                            replace p185 := eq_true p185
                            replace q185 := eq_true q185
                            try go_wp2
                            have n0_ := Aside0.mk (blk_drew BK183.out)
                            have n1_ := Aside0.mk (below_drew1 HB.out)
                            clear BK183
                            clear HB
                            have BK183 := n0_
                            have HB := n1_
                            clear n0_ n1_
                            have p188 : 0 ≤ (x6_1 : Int) := of_decide_eq_true (by first | (with_reducible assumption) | assumption)
                            have q188 : x6_1 < (l1.length : Int) := of_decide_eq_true (by first | (with_reducible assumption) | assumption)
                            obtain ⟨ad188, A188_0, c188_0, e188, hx188_0, hl188_0, hi188_0⟩ := at_L4 HR1.out x6_1 p188 q188
                            have hw188_0 := hx188_0
                            obtain rfl : ad185 = ad188 := (by injection e188)
                            replace hx188_0 := (HB.out.cell (World.block_lt_of_cell? w _ hx188_0)).trans hx188_0
                            have HR188_0 := Aside0.mk hi188_0
                            have HC188_0 := Aside0.mk hl188_0
                            clear hi188_0 hl188_0
                            replace p188 := eq_true p188
                            replace q188 := eq_true q188
                            have p189 : 0 ≤ (x7_2 : Int) := of_decide_eq_true (by first | (with_reducible assumption) | assumption)
                            have q189 : x7_2 < ((rd_L4 l1 x6_1).length : Int) := of_decide_eq_true (by first | (with_reducible assumption) | assumption)
                            obtain ⟨ad189, e189, hx189_0⟩ := Kd.at_int HR188_0.out x7_2 p189 q189
                            have hw189_0 := hx189_0
                            cases e189
                            replace hx189_0 := (HB.out.cell (World.block_lt_of_cell? w _ hx189_0)).trans hx189_0
                            replace p189 := eq_true p189
                            replace q189 := eq_true q189
                            refine start_ (n := 11) (S := fun w' => w'.cell? ⟨gb183, 0, none⟩ = some (.int .i64 a0_0) ∧ w'.cell? ⟨gb183, 1, none⟩ = some (.slice A0_1 l0_1.length c0_1) ∧ w'.cell? (ad185.add (x6_1).toNat) = some (.slice (some ad189) (rd_L4 l1 x6_1).length c188_0) ∧ w'.cell? (ad189.add (x7_2).toNat) = some (.int .i64 (rd (rd_L4 l1 x6_1) x7_2))) (ds := []) #[false, false, false, false, false, false, false, false, false, false, false] (by kernel_rfl) rfl rfl ⟨(blk_cell BK183.out 0).trans rfl, (blk_cell BK183.out 1).trans rfl, ((HB.out.cell (World.block_lt_of_cell? w _ hw188_0)).trans hw188_0), ((HB.out.cell (World.block_lt_of_cell? w _ hw189_0)).trans hw189_0)⟩ (fun hHeld => ?_); refine with_tabW tangramref11_Check.tab11 tangramref11_Check.bits11 (fun HT_ HW_ => ?_)
                            generalize wr.drew = w20 at BK183 HB HR188_0 hx188_0 hx189_0 hHeld ⊢
                            refine pure_ (i := 1) (N := some 32) (v := ?_) (a' := ?_) #[false, true, false, false, false, false, false, false, false, false, false] rfl rfl (any_of HT_.out (by kernel_rfl)) (fun _ _ _ h => h) (Or.inl ⟨by rfl, ?_⟩) ?_ ?_
                            rotate_left
                            · intro w'
                              go_simp
                              with_reducible rfl
                            rotate_left
                            · simp only [Act.put, List.setIfInBounds_toArray, List.set_cons_zero, List.set_cons_succ, i64_w, i32_w]
                              rfl
                            refine pure_ (i := 2) (N := some 33) (v := ?_) (a' := ?_) #[false, true, true, false, false, false, false, false, false, false, false] rfl rfl (any_of HT_.out (by kernel_rfl)) (fun _ _ _ h => h) (Or.inl ⟨by rfl, ?_⟩) ?_ ?_
                            rotate_left
                            · intro w'
                              go_simp
                              with_reducible rfl
                            rotate_left
                            · simp only [Act.put, List.setIfInBounds_toArray, List.set_cons_zero, List.set_cons_succ, i64_w, i32_w]
                              rfl
                            refine pure_ (i := 3) (N := some 34) (v := ?_) (a' := ?_) #[false, true, true, true, false, false, false, false, false, false, false] rfl rfl (any_of HT_.out (by kernel_rfl)) (fun _ _ _ h => h) (Or.inl ⟨by rfl, ?_⟩) ?_ ?_
                            rotate_left
                            · intro w'
                              go_simp
                              with_reducible rfl
                            rotate_left
                            · simp only [Act.put, List.setIfInBounds_toArray, List.set_cons_zero, List.set_cons_succ, i64_w, i32_w]
                              rfl
                            refine pure_ (i := 5) (N := some 36) (v := ?_) (a' := ?_) #[false, true, true, true, false, true, false, false, false, false, false] rfl rfl (any_of HT_.out (by kernel_rfl)) (fun _ _ _ h => h) (Or.inl ⟨by rfl, ?_⟩) ?_ ?_
                            rotate_left
                            · intro w'
                              go_simp
                              with_reducible rfl
                            rotate_left
                            · simp only [Act.put, List.setIfInBounds_toArray, List.set_cons_zero, List.set_cons_succ, i64_w, i32_w]
                              rfl
                            refine pure_ (i := 8) (N := some 39) (v := ?_) (a' := ?_) #[false, true, true, true, false, true, false, false, true, false, false] rfl rfl (any_of HT_.out (by kernel_rfl)) (fun _ _ _ h => h) (Or.inl ⟨by rfl, ?_⟩) ?_ ?_
                            rotate_left
                            · intro w'
                              go_simp
                              with_reducible rfl
                            rotate_left
                            · simp only [Act.put, List.setIfInBounds_toArray, List.set_cons_zero, List.set_cons_succ, i64_w, i32_w]
                              rfl
                            refine take_ (i := 0) (N := some 31) (v := ?_) (a' := ?_) #[true, true, true, true, false, true, false, false, true, false, false] rfl rfl (take_ofW HT_.out HW_.out (by kernel_rfl)) (fun _ _ _ h => h) (Or.inl ⟨by rfl, ?_⟩) hHeld ?_ ?_
                            rotate_left
                            · rintro w' ⟨s0, s1, s2, s3⟩
                              go_simp
                              with_reducible rfl
                            rotate_left
                            · simp only [Act.put, List.setIfInBounds_toArray, List.set_cons_zero, List.set_cons_succ, i64_w, i32_w]
                              rfl
                            refine take_ (i := 4) (N := some 35) (v := ?_) (a' := ?_) #[true, true, true, true, true, true, false, false, true, false, false] rfl rfl (take_ofW HT_.out HW_.out (by kernel_rfl)) (fun _ _ _ h => h) (Or.inl ⟨by rfl, ?_⟩) hHeld ?_ ?_
                            rotate_left
                            · rintro w' ⟨s0, s1, s2, s3⟩
                              go_simp
                              with_reducible rfl
                            rotate_left
                            · simp only [Act.put, List.setIfInBounds_toArray, List.set_cons_zero, List.set_cons_succ, i64_w, i32_w]
                              rfl
                            refine pure_ (i := 6) (N := some 37) (v := ?_) (a' := ?_) #[true, true, true, true, true, true, true, false, true, false, false] rfl rfl (any_of HT_.out (by kernel_rfl)) (fun _ _ _ h => h) (Or.inl ⟨by rfl, ?_⟩) ?_ ?_
                            rotate_left
                            · intro w'
                              go_simp
                              with_reducible rfl
                            rotate_left
                            · simp only [Act.put, List.setIfInBounds_toArray, List.set_cons_zero, List.set_cons_succ, i64_w, i32_w]
                              rfl
                            refine take_ (i := 7) (N := some 38) (v := ?_) (a' := ?_) #[true, true, true, true, true, true, true, true, true, false, false] rfl rfl (take_ofW HT_.out HW_.out (by kernel_rfl)) (fun _ _ _ h => h) (Or.inl ⟨by rfl, ?_⟩) hHeld ?_ ?_
                            rotate_left
                            · rintro w' ⟨s0, s1, s2, s3⟩
                              go_simp
                              with_reducible rfl
                            rotate_left
                            · simp only [Act.put, List.setIfInBounds_toArray, List.set_cons_zero, List.set_cons_succ, i64_w, i32_w]
                              rfl
                            refine one_ (i := 9) (N := some 40) #[true, true, true, true, true, true, true, true, true, true, false] rfl rfl (one_of HT_.out (by kernel_rfl)) (by decide) (fun K hK => ?_)
                            refine goes_ Try.func37 (by kernel_rfl) rfl #[.agg #[.int .i64 a0_0, .slice A0_1 l0_1.length c0_1], .int .i64 (rd (rd_L4 l1 x6_1) x7_2), .int .i64 x6_1] (by rfl) rfl rfl (by (try simp only [List.map_toArray, List.map_cons, List.map_nil]); first | done | rfl | (simp only [List.length_drop, List.length_take]; rfl)) ?_
                            with_reducible refine (tangramref11_leaves.calls a0_0 _ _ l0_1 (rd (rd_L4 l1 x6_1) x7_2) x6_1 true _ ?side1 ?side2 A16.out).mono ?_
                            (case side1 => repeat (first | exact (Kd.C_below HR0_1.out HB.out) | (with_reducible refine Kd.C_alloc ?_ _) | (with_reducible refine Kd.C_drewN ?_ _) | (with_reducible refine Kd.C_drew ?_)))
                            (case side2 => exact HC0_1.out)
                            rintro e w21 ⟨rfl, hb⟩
                            refine ⟨_, rfl, ?_⟩
                            have n0_ := Aside0.mk (blk_below (g := gb183) (o := .cells #[.int .i64 a0_0, .slice A0_1 l0_1.length c0_1] 24 (0, 0)) (by (with_reducible repeat (first | refine blk_drewN ?_ _ | refine blk_drew ?_ | refine blk_alloc ?_ _)); exact BK183.out) hb)
                            have n1_ := Aside0.mk (below_step (by repeat (first | (with_reducible first | exact HB.out | apply below_alloc | apply pw_below_drewN | apply below_drew1 | refine below_set ?_ GE183.out) | exact HB.out)) hb)
                            clear BK183
                            clear HB
                            have BK183 := n0_
                            have HB := n1_
                            clear n0_ n1_
                            (try clear hb)
                            (try clear hb2)
                            (try clear hk)
                            (try clear hi)
                            refine hK.out _ _ ⟨(blk_cell BK183.out 0).trans rfl, (blk_cell BK183.out 1).trans rfl, ((HB.out.cell (World.block_lt_of_cell? w _ hw188_0)).trans hw188_0), ((HB.out.cell (World.block_lt_of_cell? w _ hw189_0)).trans hw189_0)⟩ (fun hHeld => ?_)
                            clear hK K
                            refine norm_ (a' := ?_) ?_ ?_
                            rotate_left
                            · show Act.put _ (some 40) _ = _
                              simp only [Act.put, List.setIfInBounds_toArray, List.set_cons_zero, List.set_cons_succ, i64_w, i32_w]
                              rfl
                            refine pure_ (i := 10) (N := some 41) (v := ?_) (a' := ?_) #[true, true, true, true, true, true, true, true, true, true, true] rfl rfl (any_of HT_.out (by kernel_rfl)) (fun _ _ _ h => h) (Or.inl ⟨by rfl, ?_⟩) ?_ ?_
                            rotate_left
                            · intro w'
                              go_simp
                              with_reducible rfl
                            rotate_left
                            · simp only [Act.put, List.setIfInBounds_toArray, List.set_cons_zero, List.set_cons_succ, i64_w, i32_w]
                              rfl
                            refine done_ (done_of HT_.out (by kernel_rfl)) ?_
                            try go_wp2
                            have n0_ := Aside0.mk (blk_drew BK183.out)
                            have n1_ := Aside0.mk (below_drew1 HB.out)
                            clear BK183
                            clear HB
                            have BK183 := n0_
                            have HB := n1_
                            clear n0_ n1_
                            have p191 : 0 ≤ (x6_1 : Int) := of_decide_eq_true (by first | (with_reducible assumption) | assumption)
                            have q191 : x6_1 < (l1.length : Int) := of_decide_eq_true (by first | (with_reducible assumption) | assumption)
                            obtain ⟨ad191, A191_0, c191_0, e191, hx191_0, hl191_0, hi191_0⟩ := at_L4 HR1.out x6_1 p191 q191
                            have hw191_0 := hx191_0
                            obtain rfl : ad185 = ad191 := (by injection e191)
                            replace hx191_0 := (HB.out.cell (World.block_lt_of_cell? w _ hx191_0)).trans hx191_0
                            have HR191_0 := Aside0.mk hi191_0
                            have HC191_0 := Aside0.mk hl191_0
                            clear hi191_0 hl191_0
                            replace p191 := eq_true p191
                            replace q191 := eq_true q191
                            have p192 : 0 ≤ (x6_1 : Int) := of_decide_eq_true (by first | (with_reducible assumption) | assumption)
                            have q192 : x6_1 < (l1.length : Int) := of_decide_eq_true (by first | (with_reducible assumption) | assumption)
                            obtain ⟨ad192, A192_0, c192_0, e192, hx192_0, hl192_0, hi192_0⟩ := at_L4 HR1.out x6_1 p192 q192
                            have hw192_0 := hx192_0
                            obtain rfl : ad185 = ad192 := (by injection e192)
                            replace hx192_0 := (HB.out.cell (World.block_lt_of_cell? w _ hx192_0)).trans hx192_0
                            have HR192_0 := Aside0.mk hi192_0
                            have HC192_0 := Aside0.mk hl192_0
                            clear hi192_0 hl192_0
                            replace p192 := eq_true p192
                            replace q192 := eq_true q192
                            have ea_ := Option.some.inj (hx191_0.symm.trans hx192_0)
                            injection ea_ with ea_ en_ ec_
                            subst ea_
                            subst ec_
                            clear en_
                            have p193 : 0 ≤ (x7_2 : Int) := of_decide_eq_true (by first | (with_reducible assumption) | assumption)
                            have q193 : x7_2 < ((rd_L4 l1 x6_1).length : Int) := of_decide_eq_true (by first | (with_reducible assumption) | assumption)
                            obtain ⟨ad193, e193, hx193_0⟩ := Kd.at_int HR192_0.out x7_2 p193 q193
                            have hw193_0 := hx193_0
                            cases e193
                            replace hx193_0 := (HB.out.cell (World.block_lt_of_cell? w _ hx193_0)).trans hx193_0
                            replace p193 := eq_true p193
                            replace q193 := eq_true q193
                            refine start_ (n := 13) (S := fun w' => w'.cell? (ad185.add (x6_1).toNat) = some (.slice (some ad193) (rd_L4 l1 x6_1).length c191_0) ∧ w'.cell? (ad185.add (x6_1).toNat) = some (.slice (some ad193) (rd_L4 l1 x6_1).length c191_0) ∧ w'.cell? (ad193.add (x7_2).toNat) = some (.int .i64 (rd (rd_L4 l1 x6_1) x7_2))) (ds := []) #[false, false, false, false, false, false, false, false, false, false, false, false, false] (by kernel_rfl) rfl rfl ⟨((HB.out.cell (World.block_lt_of_cell? w _ hw191_0)).trans hw191_0), ((HB.out.cell (World.block_lt_of_cell? w _ hw192_0)).trans hw192_0), ((HB.out.cell (World.block_lt_of_cell? w _ hw193_0)).trans hw193_0)⟩ (fun hHeld => ?_); refine with_tabW tangramref11_Check.tab13 tangramref11_Check.bits13 (fun HT_ HW_ => ?_)
                            generalize w21.drew = w22 at BK183 HB HR191_0 HR192_0 hx191_0 hx192_0 hx193_0 hHeld ⊢
                            refine pure_ (i := 0) (N := some 43) (v := ?_) (a' := ?_) #[true, false, false, false, false, false, false, false, false, false, false, false, false] rfl rfl (any_of HT_.out (by kernel_rfl)) (fun _ _ _ h => h) (Or.inl ⟨by rfl, ?_⟩) ?_ ?_
                            rotate_left
                            · intro w'
                              go_simp
                              with_reducible rfl
                            rotate_left
                            · simp only [Act.put, List.setIfInBounds_toArray, List.set_cons_zero, List.set_cons_succ, i64_w, i32_w]
                              rfl
                            refine pure_ (i := 1) (N := some 44) (v := ?_) (a' := ?_) #[true, true, false, false, false, false, false, false, false, false, false, false, false] rfl rfl (any_of HT_.out (by kernel_rfl)) (fun _ _ _ h => h) (Or.inl ⟨by rfl, ?_⟩) ?_ ?_
                            rotate_left
                            · intro w'
                              go_simp
                              with_reducible rfl
                            rotate_left
                            · simp only [Act.put, List.setIfInBounds_toArray, List.set_cons_zero, List.set_cons_succ, i64_w, i32_w]
                              rfl
                            refine pure_ (i := 2) (N := some 45) (v := ?_) (a' := ?_) #[true, true, true, false, false, false, false, false, false, false, false, false, false] rfl rfl (any_of HT_.out (by kernel_rfl)) (fun _ _ _ h => h) (Or.inl ⟨by rfl, ?_⟩) ?_ ?_
                            rotate_left
                            · intro w'
                              go_simp
                              with_reducible rfl
                            rotate_left
                            · simp only [Act.put, List.setIfInBounds_toArray, List.set_cons_zero, List.set_cons_succ, i64_w, i32_w]
                              rfl
                            refine pure_ (i := 4) (N := some 47) (v := ?_) (a' := ?_) #[true, true, true, false, true, false, false, false, false, false, false, false, false] rfl rfl (any_of HT_.out (by kernel_rfl)) (fun _ _ _ h => h) (Or.inl ⟨by rfl, ?_⟩) ?_ ?_
                            rotate_left
                            · intro w'
                              go_simp
                              with_reducible rfl
                            rotate_left
                            · simp only [Act.put, List.setIfInBounds_toArray, List.set_cons_zero, List.set_cons_succ, i64_w, i32_w]
                              rfl
                            refine pure_ (i := 5) (N := some 48) (v := ?_) (a' := ?_) #[true, true, true, false, true, true, false, false, false, false, false, false, false] rfl rfl (any_of HT_.out (by kernel_rfl)) (fun _ _ _ h => h) (Or.inl ⟨by rfl, ?_⟩) ?_ ?_
                            rotate_left
                            · intro w'
                              go_simp
                              with_reducible rfl
                            rotate_left
                            · simp only [Act.put, List.setIfInBounds_toArray, List.set_cons_zero, List.set_cons_succ, i64_w, i32_w]
                              rfl
                            refine pure_ (i := 6) (N := some 49) (v := ?_) (a' := ?_) #[true, true, true, false, true, true, true, false, false, false, false, false, false] rfl rfl (any_of HT_.out (by kernel_rfl)) (fun _ _ _ h => h) (Or.inl ⟨by rfl, ?_⟩) ?_ ?_
                            rotate_left
                            · intro w'
                              go_simp
                              with_reducible rfl
                            rotate_left
                            · simp only [Act.put, List.setIfInBounds_toArray, List.set_cons_zero, List.set_cons_succ, i64_w, i32_w]
                              rfl
                            refine pure_ (i := 7) (N := some 50) (v := ?_) (a' := ?_) #[true, true, true, false, true, true, true, true, false, false, false, false, false] rfl rfl (any_of HT_.out (by kernel_rfl)) (fun _ _ _ h => h) (Or.inl ⟨by rfl, ?_⟩) ?_ ?_
                            rotate_left
                            · intro w'
                              go_simp
                              with_reducible rfl
                            rotate_left
                            · simp only [Act.put, List.setIfInBounds_toArray, List.set_cons_zero, List.set_cons_succ, i64_w, i32_w]
                              rfl
                            refine pure_ (i := 9) (N := some 52) (v := ?_) (a' := ?_) #[true, true, true, false, true, true, true, true, false, true, false, false, false] rfl rfl (any_of HT_.out (by kernel_rfl)) (fun _ _ _ h => h) (Or.inl ⟨by rfl, ?_⟩) ?_ ?_
                            rotate_left
                            · intro w'
                              go_simp
                              with_reducible rfl
                            rotate_left
                            · simp only [Act.put, List.setIfInBounds_toArray, List.set_cons_zero, List.set_cons_succ, i64_w, i32_w]
                              rfl
                            refine take_ (i := 3) (N := some 46) (v := ?_) (a' := ?_) #[true, true, true, true, true, true, true, true, false, true, false, false, false] rfl rfl (take_ofW HT_.out HW_.out (by kernel_rfl)) (fun _ _ _ h => h) (Or.inl ⟨by rfl, ?_⟩) hHeld ?_ ?_
                            rotate_left
                            · rintro w' ⟨s0, s1, s2⟩
                              go_simp
                              with_reducible rfl
                            rotate_left
                            · simp only [Act.put, List.setIfInBounds_toArray, List.set_cons_zero, List.set_cons_succ, i64_w, i32_w]
                              rfl
                            refine take_ (i := 8) (N := some 51) (v := ?_) (a' := ?_) #[true, true, true, true, true, true, true, true, true, true, false, false, false] rfl rfl (take_ofW HT_.out HW_.out (by kernel_rfl)) (fun _ _ _ h => h) (Or.inl ⟨by rfl, ?_⟩) hHeld ?_ ?_
                            rotate_left
                            · rintro w' ⟨s0, s1, s2⟩
                              go_simp
                              with_reducible rfl
                            rotate_left
                            · simp only [Act.put, List.setIfInBounds_toArray, List.set_cons_zero, List.set_cons_succ, i64_w, i32_w]
                              rfl
                            refine pure_ (i := 10) (N := some 53) (v := ?_) (a' := ?_) #[true, true, true, true, true, true, true, true, true, true, true, false, false] rfl rfl (any_of HT_.out (by kernel_rfl)) (fun _ _ _ h => h) (Or.inl ⟨by rfl, ?_⟩) ?_ ?_
                            rotate_left
                            · intro w'
                              go_simp
                              with_reducible rfl
                            rotate_left
                            · simp only [Act.put, List.setIfInBounds_toArray, List.set_cons_zero, List.set_cons_succ, i64_w, i32_w]
                              rfl
                            refine take_ (i := 11) (N := some 54) (v := ?_) (a' := ?_) #[true, true, true, true, true, true, true, true, true, true, true, true, false] rfl rfl (take_ofW HT_.out HW_.out (by kernel_rfl)) (fun _ _ _ h => h) (Or.inl ⟨by rfl, ?_⟩) hHeld ?_ ?_
                            rotate_left
                            · rintro w' ⟨s0, s1, s2⟩
                              go_simp
                              with_reducible rfl
                            rotate_left
                            · simp only [Act.put, List.setIfInBounds_toArray, List.set_cons_zero, List.set_cons_succ, i64_w, i32_w]
                              rfl
                            refine one_ (i := 12) (N := some 55) #[true, true, true, true, true, true, true, true, true, true, true, true, true] rfl rfl (one_of HT_.out (by kernel_rfl)) (by decide) (fun K hK => ?_)
                            refine goes_ Try.func38 (by kernel_rfl) rfl #[.slice (some ad193) (rd_L4 l1 x6_1).length c191_0, .int .i64 x7_2, .int .i64 (rd (rd_L4 l1 x6_1) x7_2)] (by rfl) rfl rfl (by (try simp only [List.map_toArray, List.map_cons, List.map_nil]); first | done | rfl | (simp only [List.length_drop, List.length_take]; rfl)) ?_
                            with_reducible refine (tangramref11_stands.calls k2 _ _ (rd_L4 l1 x6_1) x7_2 (rd (rd_L4 l1 x6_1) x7_2) true _ ?side1 ?side2 A18.out).mono ?_
                            (case side1 => repeat (first | exact (Kd.C_below HR191_0.out HB.out) | (with_reducible refine Kd.C_alloc ?_ _) | (with_reducible refine Kd.C_drewN ?_ _) | (with_reducible refine Kd.C_drew ?_)))
                            (case side2 => exact HC191_0.out)
                            rintro e w' ⟨rfl, ⟨nd, rfl⟩⟩
                            refine ⟨_, rfl, ?_⟩
                            refine hK.out _ _ ⟨((HB.out.cell (World.block_lt_of_cell? w _ hw191_0)).trans hw191_0), ((HB.out.cell (World.block_lt_of_cell? w _ hw192_0)).trans hw192_0), ((HB.out.cell (World.block_lt_of_cell? w _ hw193_0)).trans hw193_0)⟩ (fun hHeld => ?_)
                            clear hK K
                            refine norm_ (a' := ?_) ?_ ?_
                            rotate_left
                            · show Act.put _ (some 55) _ = _
                              simp only [Act.put, List.setIfInBounds_toArray, List.set_cons_zero, List.set_cons_succ, i64_w, i32_w]
                              rfl
                            refine done_ (done_of HT_.out (by kernel_rfl)) ?_
                            try go_wp2
                            go_ret2
                            exact ⟨by first | rfl | (simp [errW_none, errW_some] <;> rfl) | (simp [*, errW_none, errW_some] <;> rfl), by repeat (first | (with_reducible first | exact HB.out | apply below_alloc | apply pw_below_drewN | apply below_drew1 | refine below_set ?_ GE183.out) | exact HB.out)⟩
                          · replace c19 := Bool.eq_false_iff.mpr c19
                            subst c19
                            have H1 : (tangramref11_Check.l1 k2 l1 x6_1 (wrap64 (x7_2 + 1)) a0_0 l0_1) = some (r1, r2) := by rw [if_neg (show ¬ (false = true) by decide)] at H; exact H
                            clear H
                            have H := H1
                            clear H1
                            have H' := Aside0.mk H
                            clear H
                            have p185 : 0 ≤ (x6_1 : Int) := of_decide_eq_true (by first | (with_reducible assumption) | assumption)
                            have q185 : x6_1 < (l1.length : Int) := of_decide_eq_true (by first | (with_reducible assumption) | assumption)
                            obtain ⟨ad185, A185_0, c185_0, e185, hx185_0, hl185_0, hi185_0⟩ := at_L4 HR1.out x6_1 p185 q185
                            cases e185
                            replace hx185_0 := (HB.out.cell (World.block_lt_of_cell? w _ hx185_0)).trans hx185_0
                            have HR185_0 := Aside0.mk hi185_0
                            have HC185_0 := Aside0.mk hl185_0
                            clear hi185_0 hl185_0
                            replace p185 := eq_true p185
                            replace q185 := eq_true q185
                            try go_wp2
                            have n0_ := Aside0.mk (blk_drew BK183.out)
                            have n1_ := Aside0.mk (below_drew1 HB.out)
                            clear BK183
                            clear HB
                            have BK183 := n0_
                            have HB := n1_
                            clear n0_ n1_
                            have p188 : 0 ≤ (x6_1 : Int) := of_decide_eq_true (by first | (with_reducible assumption) | assumption)
                            have q188 : x6_1 < (l1.length : Int) := of_decide_eq_true (by first | (with_reducible assumption) | assumption)
                            obtain ⟨ad188, A188_0, c188_0, e188, hx188_0, hl188_0, hi188_0⟩ := at_L4 HR1.out x6_1 p188 q188
                            have hw188_0 := hx188_0
                            obtain rfl : ad185 = ad188 := (by injection e188)
                            replace hx188_0 := (HB.out.cell (World.block_lt_of_cell? w _ hx188_0)).trans hx188_0
                            have HR188_0 := Aside0.mk hi188_0
                            have HC188_0 := Aside0.mk hl188_0
                            clear hi188_0 hl188_0
                            replace p188 := eq_true p188
                            replace q188 := eq_true q188
                            have p189 : 0 ≤ (x7_2 : Int) := of_decide_eq_true (by first | (with_reducible assumption) | assumption)
                            have q189 : x7_2 < ((rd_L4 l1 x6_1).length : Int) := of_decide_eq_true (by first | (with_reducible assumption) | assumption)
                            obtain ⟨ad189, e189, hx189_0⟩ := Kd.at_int HR188_0.out x7_2 p189 q189
                            have hw189_0 := hx189_0
                            cases e189
                            replace hx189_0 := (HB.out.cell (World.block_lt_of_cell? w _ hx189_0)).trans hx189_0
                            replace p189 := eq_true p189
                            replace q189 := eq_true q189
                            refine start_ (n := 11) (S := fun w' => w'.cell? ⟨gb183, 0, none⟩ = some (.int .i64 a0_0) ∧ w'.cell? ⟨gb183, 1, none⟩ = some (.slice A0_1 l0_1.length c0_1) ∧ w'.cell? (ad185.add (x6_1).toNat) = some (.slice (some ad189) (rd_L4 l1 x6_1).length c188_0) ∧ w'.cell? (ad189.add (x7_2).toNat) = some (.int .i64 (rd (rd_L4 l1 x6_1) x7_2))) (ds := []) #[false, false, false, false, false, false, false, false, false, false, false] (by kernel_rfl) rfl rfl ⟨(blk_cell BK183.out 0).trans rfl, (blk_cell BK183.out 1).trans rfl, ((HB.out.cell (World.block_lt_of_cell? w _ hw188_0)).trans hw188_0), ((HB.out.cell (World.block_lt_of_cell? w _ hw189_0)).trans hw189_0)⟩ (fun hHeld => ?_); refine with_tabW tangramref11_Check.tab11 tangramref11_Check.bits11 (fun HT_ HW_ => ?_)
                            generalize wr.drew = w23 at BK183 HB HR188_0 hx188_0 hx189_0 hHeld ⊢
                            refine pure_ (i := 1) (N := some 32) (v := ?_) (a' := ?_) #[false, true, false, false, false, false, false, false, false, false, false] rfl rfl (any_of HT_.out (by kernel_rfl)) (fun _ _ _ h => h) (Or.inl ⟨by rfl, ?_⟩) ?_ ?_
                            rotate_left
                            · intro w'
                              go_simp
                              with_reducible rfl
                            rotate_left
                            · simp only [Act.put, List.setIfInBounds_toArray, List.set_cons_zero, List.set_cons_succ, i64_w, i32_w]
                              rfl
                            refine pure_ (i := 2) (N := some 33) (v := ?_) (a' := ?_) #[false, true, true, false, false, false, false, false, false, false, false] rfl rfl (any_of HT_.out (by kernel_rfl)) (fun _ _ _ h => h) (Or.inl ⟨by rfl, ?_⟩) ?_ ?_
                            rotate_left
                            · intro w'
                              go_simp
                              with_reducible rfl
                            rotate_left
                            · simp only [Act.put, List.setIfInBounds_toArray, List.set_cons_zero, List.set_cons_succ, i64_w, i32_w]
                              rfl
                            refine pure_ (i := 3) (N := some 34) (v := ?_) (a' := ?_) #[false, true, true, true, false, false, false, false, false, false, false] rfl rfl (any_of HT_.out (by kernel_rfl)) (fun _ _ _ h => h) (Or.inl ⟨by rfl, ?_⟩) ?_ ?_
                            rotate_left
                            · intro w'
                              go_simp
                              with_reducible rfl
                            rotate_left
                            · simp only [Act.put, List.setIfInBounds_toArray, List.set_cons_zero, List.set_cons_succ, i64_w, i32_w]
                              rfl
                            refine pure_ (i := 5) (N := some 36) (v := ?_) (a' := ?_) #[false, true, true, true, false, true, false, false, false, false, false] rfl rfl (any_of HT_.out (by kernel_rfl)) (fun _ _ _ h => h) (Or.inl ⟨by rfl, ?_⟩) ?_ ?_
                            rotate_left
                            · intro w'
                              go_simp
                              with_reducible rfl
                            rotate_left
                            · simp only [Act.put, List.setIfInBounds_toArray, List.set_cons_zero, List.set_cons_succ, i64_w, i32_w]
                              rfl
                            refine pure_ (i := 8) (N := some 39) (v := ?_) (a' := ?_) #[false, true, true, true, false, true, false, false, true, false, false] rfl rfl (any_of HT_.out (by kernel_rfl)) (fun _ _ _ h => h) (Or.inl ⟨by rfl, ?_⟩) ?_ ?_
                            rotate_left
                            · intro w'
                              go_simp
                              with_reducible rfl
                            rotate_left
                            · simp only [Act.put, List.setIfInBounds_toArray, List.set_cons_zero, List.set_cons_succ, i64_w, i32_w]
                              rfl
                            refine take_ (i := 0) (N := some 31) (v := ?_) (a' := ?_) #[true, true, true, true, false, true, false, false, true, false, false] rfl rfl (take_ofW HT_.out HW_.out (by kernel_rfl)) (fun _ _ _ h => h) (Or.inl ⟨by rfl, ?_⟩) hHeld ?_ ?_
                            rotate_left
                            · rintro w' ⟨s0, s1, s2, s3⟩
                              go_simp
                              with_reducible rfl
                            rotate_left
                            · simp only [Act.put, List.setIfInBounds_toArray, List.set_cons_zero, List.set_cons_succ, i64_w, i32_w]
                              rfl
                            refine take_ (i := 4) (N := some 35) (v := ?_) (a' := ?_) #[true, true, true, true, true, true, false, false, true, false, false] rfl rfl (take_ofW HT_.out HW_.out (by kernel_rfl)) (fun _ _ _ h => h) (Or.inl ⟨by rfl, ?_⟩) hHeld ?_ ?_
                            rotate_left
                            · rintro w' ⟨s0, s1, s2, s3⟩
                              go_simp
                              with_reducible rfl
                            rotate_left
                            · simp only [Act.put, List.setIfInBounds_toArray, List.set_cons_zero, List.set_cons_succ, i64_w, i32_w]
                              rfl
                            refine pure_ (i := 6) (N := some 37) (v := ?_) (a' := ?_) #[true, true, true, true, true, true, true, false, true, false, false] rfl rfl (any_of HT_.out (by kernel_rfl)) (fun _ _ _ h => h) (Or.inl ⟨by rfl, ?_⟩) ?_ ?_
                            rotate_left
                            · intro w'
                              go_simp
                              with_reducible rfl
                            rotate_left
                            · simp only [Act.put, List.setIfInBounds_toArray, List.set_cons_zero, List.set_cons_succ, i64_w, i32_w]
                              rfl
                            refine take_ (i := 7) (N := some 38) (v := ?_) (a' := ?_) #[true, true, true, true, true, true, true, true, true, false, false] rfl rfl (take_ofW HT_.out HW_.out (by kernel_rfl)) (fun _ _ _ h => h) (Or.inl ⟨by rfl, ?_⟩) hHeld ?_ ?_
                            rotate_left
                            · rintro w' ⟨s0, s1, s2, s3⟩
                              go_simp
                              with_reducible rfl
                            rotate_left
                            · simp only [Act.put, List.setIfInBounds_toArray, List.set_cons_zero, List.set_cons_succ, i64_w, i32_w]
                              rfl
                            refine one_ (i := 9) (N := some 40) #[true, true, true, true, true, true, true, true, true, true, false] rfl rfl (one_of HT_.out (by kernel_rfl)) (by decide) (fun K hK => ?_)
                            refine goes_ Try.func37 (by kernel_rfl) rfl #[.agg #[.int .i64 a0_0, .slice A0_1 l0_1.length c0_1], .int .i64 (rd (rd_L4 l1 x6_1) x7_2), .int .i64 x6_1] (by rfl) rfl rfl (by (try simp only [List.map_toArray, List.map_cons, List.map_nil]); first | done | rfl | (simp only [List.length_drop, List.length_take]; rfl)) ?_
                            with_reducible refine (tangramref11_leaves.calls a0_0 _ _ l0_1 (rd (rd_L4 l1 x6_1) x7_2) x6_1 true _ ?side1 ?side2 A16.out).mono ?_
                            (case side1 => repeat (first | exact (Kd.C_below HR0_1.out HB.out) | (with_reducible refine Kd.C_alloc ?_ _) | (with_reducible refine Kd.C_drewN ?_ _) | (with_reducible refine Kd.C_drew ?_)))
                            (case side2 => exact HC0_1.out)
                            rintro e w24 ⟨rfl, hb⟩
                            refine ⟨_, rfl, ?_⟩
                            have n0_ := Aside0.mk (blk_below (g := gb183) (o := .cells #[.int .i64 a0_0, .slice A0_1 l0_1.length c0_1] 24 (0, 0)) (by (with_reducible repeat (first | refine blk_drewN ?_ _ | refine blk_drew ?_ | refine blk_alloc ?_ _)); exact BK183.out) hb)
                            have n1_ := Aside0.mk (below_step (by repeat (first | (with_reducible first | exact HB.out | apply below_alloc | apply pw_below_drewN | apply below_drew1 | refine below_set ?_ GE183.out) | exact HB.out)) hb)
                            clear BK183
                            clear HB
                            have BK183 := n0_
                            have HB := n1_
                            clear n0_ n1_
                            (try clear hb)
                            (try clear hb2)
                            (try clear hk)
                            (try clear hi)
                            refine hK.out _ _ ⟨(blk_cell BK183.out 0).trans rfl, (blk_cell BK183.out 1).trans rfl, ((HB.out.cell (World.block_lt_of_cell? w _ hw188_0)).trans hw188_0), ((HB.out.cell (World.block_lt_of_cell? w _ hw189_0)).trans hw189_0)⟩ (fun hHeld => ?_)
                            clear hK K
                            refine norm_ (a' := ?_) ?_ ?_
                            rotate_left
                            · show Act.put _ (some 40) _ = _
                              simp only [Act.put, List.setIfInBounds_toArray, List.set_cons_zero, List.set_cons_succ, i64_w, i32_w]
                              rfl
                            refine pure_ (i := 10) (N := some 41) (v := ?_) (a' := ?_) #[true, true, true, true, true, true, true, true, true, true, true] rfl rfl (any_of HT_.out (by kernel_rfl)) (fun _ _ _ h => h) (Or.inl ⟨by rfl, ?_⟩) ?_ ?_
                            rotate_left
                            · intro w'
                              go_simp
                              with_reducible rfl
                            rotate_left
                            · simp only [Act.put, List.setIfInBounds_toArray, List.set_cons_zero, List.set_cons_succ, i64_w, i32_w]
                              rfl
                            refine done_ (done_of HT_.out (by kernel_rfl)) ?_
                            try go_wp2
                            have n0_ := Aside0.mk (blk_drew BK183.out)
                            have n1_ := Aside0.mk (below_drew1 HB.out)
                            clear BK183
                            clear HB
                            have BK183 := n0_
                            have HB := n1_
                            clear n0_ n1_
                            have p191 : 0 ≤ (x6_1 : Int) := of_decide_eq_true (by first | (with_reducible assumption) | assumption)
                            have q191 : x6_1 < (l1.length : Int) := of_decide_eq_true (by first | (with_reducible assumption) | assumption)
                            obtain ⟨ad191, A191_0, c191_0, e191, hx191_0, hl191_0, hi191_0⟩ := at_L4 HR1.out x6_1 p191 q191
                            have hw191_0 := hx191_0
                            obtain rfl : ad185 = ad191 := (by injection e191)
                            replace hx191_0 := (HB.out.cell (World.block_lt_of_cell? w _ hx191_0)).trans hx191_0
                            have HR191_0 := Aside0.mk hi191_0
                            have HC191_0 := Aside0.mk hl191_0
                            clear hi191_0 hl191_0
                            replace p191 := eq_true p191
                            replace q191 := eq_true q191
                            have p192 : 0 ≤ (x6_1 : Int) := of_decide_eq_true (by first | (with_reducible assumption) | assumption)
                            have q192 : x6_1 < (l1.length : Int) := of_decide_eq_true (by first | (with_reducible assumption) | assumption)
                            obtain ⟨ad192, A192_0, c192_0, e192, hx192_0, hl192_0, hi192_0⟩ := at_L4 HR1.out x6_1 p192 q192
                            have hw192_0 := hx192_0
                            obtain rfl : ad185 = ad192 := (by injection e192)
                            replace hx192_0 := (HB.out.cell (World.block_lt_of_cell? w _ hx192_0)).trans hx192_0
                            have HR192_0 := Aside0.mk hi192_0
                            have HC192_0 := Aside0.mk hl192_0
                            clear hi192_0 hl192_0
                            replace p192 := eq_true p192
                            replace q192 := eq_true q192
                            have ea_ := Option.some.inj (hx191_0.symm.trans hx192_0)
                            injection ea_ with ea_ en_ ec_
                            subst ea_
                            subst ec_
                            clear en_
                            have p193 : 0 ≤ (x7_2 : Int) := of_decide_eq_true (by first | (with_reducible assumption) | assumption)
                            have q193 : x7_2 < ((rd_L4 l1 x6_1).length : Int) := of_decide_eq_true (by first | (with_reducible assumption) | assumption)
                            obtain ⟨ad193, e193, hx193_0⟩ := Kd.at_int HR192_0.out x7_2 p193 q193
                            have hw193_0 := hx193_0
                            cases e193
                            replace hx193_0 := (HB.out.cell (World.block_lt_of_cell? w _ hx193_0)).trans hx193_0
                            replace p193 := eq_true p193
                            replace q193 := eq_true q193
                            refine start_ (n := 13) (S := fun w' => w'.cell? (ad185.add (x6_1).toNat) = some (.slice (some ad193) (rd_L4 l1 x6_1).length c191_0) ∧ w'.cell? (ad185.add (x6_1).toNat) = some (.slice (some ad193) (rd_L4 l1 x6_1).length c191_0) ∧ w'.cell? (ad193.add (x7_2).toNat) = some (.int .i64 (rd (rd_L4 l1 x6_1) x7_2))) (ds := []) #[false, false, false, false, false, false, false, false, false, false, false, false, false] (by kernel_rfl) rfl rfl ⟨((HB.out.cell (World.block_lt_of_cell? w _ hw191_0)).trans hw191_0), ((HB.out.cell (World.block_lt_of_cell? w _ hw192_0)).trans hw192_0), ((HB.out.cell (World.block_lt_of_cell? w _ hw193_0)).trans hw193_0)⟩ (fun hHeld => ?_); refine with_tabW tangramref11_Check.tab13 tangramref11_Check.bits13 (fun HT_ HW_ => ?_)
                            generalize w24.drew = w25 at BK183 HB HR191_0 HR192_0 hx191_0 hx192_0 hx193_0 hHeld ⊢
                            refine pure_ (i := 0) (N := some 43) (v := ?_) (a' := ?_) #[true, false, false, false, false, false, false, false, false, false, false, false, false] rfl rfl (any_of HT_.out (by kernel_rfl)) (fun _ _ _ h => h) (Or.inl ⟨by rfl, ?_⟩) ?_ ?_
                            rotate_left
                            · intro w'
                              go_simp
                              with_reducible rfl
                            rotate_left
                            · simp only [Act.put, List.setIfInBounds_toArray, List.set_cons_zero, List.set_cons_succ, i64_w, i32_w]
                              rfl
                            refine pure_ (i := 1) (N := some 44) (v := ?_) (a' := ?_) #[true, true, false, false, false, false, false, false, false, false, false, false, false] rfl rfl (any_of HT_.out (by kernel_rfl)) (fun _ _ _ h => h) (Or.inl ⟨by rfl, ?_⟩) ?_ ?_
                            rotate_left
                            · intro w'
                              go_simp
                              with_reducible rfl
                            rotate_left
                            · simp only [Act.put, List.setIfInBounds_toArray, List.set_cons_zero, List.set_cons_succ, i64_w, i32_w]
                              rfl
                            refine pure_ (i := 2) (N := some 45) (v := ?_) (a' := ?_) #[true, true, true, false, false, false, false, false, false, false, false, false, false] rfl rfl (any_of HT_.out (by kernel_rfl)) (fun _ _ _ h => h) (Or.inl ⟨by rfl, ?_⟩) ?_ ?_
                            rotate_left
                            · intro w'
                              go_simp
                              with_reducible rfl
                            rotate_left
                            · simp only [Act.put, List.setIfInBounds_toArray, List.set_cons_zero, List.set_cons_succ, i64_w, i32_w]
                              rfl
                            refine pure_ (i := 4) (N := some 47) (v := ?_) (a' := ?_) #[true, true, true, false, true, false, false, false, false, false, false, false, false] rfl rfl (any_of HT_.out (by kernel_rfl)) (fun _ _ _ h => h) (Or.inl ⟨by rfl, ?_⟩) ?_ ?_
                            rotate_left
                            · intro w'
                              go_simp
                              with_reducible rfl
                            rotate_left
                            · simp only [Act.put, List.setIfInBounds_toArray, List.set_cons_zero, List.set_cons_succ, i64_w, i32_w]
                              rfl
                            refine pure_ (i := 5) (N := some 48) (v := ?_) (a' := ?_) #[true, true, true, false, true, true, false, false, false, false, false, false, false] rfl rfl (any_of HT_.out (by kernel_rfl)) (fun _ _ _ h => h) (Or.inl ⟨by rfl, ?_⟩) ?_ ?_
                            rotate_left
                            · intro w'
                              go_simp
                              with_reducible rfl
                            rotate_left
                            · simp only [Act.put, List.setIfInBounds_toArray, List.set_cons_zero, List.set_cons_succ, i64_w, i32_w]
                              rfl
                            refine pure_ (i := 6) (N := some 49) (v := ?_) (a' := ?_) #[true, true, true, false, true, true, true, false, false, false, false, false, false] rfl rfl (any_of HT_.out (by kernel_rfl)) (fun _ _ _ h => h) (Or.inl ⟨by rfl, ?_⟩) ?_ ?_
                            rotate_left
                            · intro w'
                              go_simp
                              with_reducible rfl
                            rotate_left
                            · simp only [Act.put, List.setIfInBounds_toArray, List.set_cons_zero, List.set_cons_succ, i64_w, i32_w]
                              rfl
                            refine pure_ (i := 7) (N := some 50) (v := ?_) (a' := ?_) #[true, true, true, false, true, true, true, true, false, false, false, false, false] rfl rfl (any_of HT_.out (by kernel_rfl)) (fun _ _ _ h => h) (Or.inl ⟨by rfl, ?_⟩) ?_ ?_
                            rotate_left
                            · intro w'
                              go_simp
                              with_reducible rfl
                            rotate_left
                            · simp only [Act.put, List.setIfInBounds_toArray, List.set_cons_zero, List.set_cons_succ, i64_w, i32_w]
                              rfl
                            refine pure_ (i := 9) (N := some 52) (v := ?_) (a' := ?_) #[true, true, true, false, true, true, true, true, false, true, false, false, false] rfl rfl (any_of HT_.out (by kernel_rfl)) (fun _ _ _ h => h) (Or.inl ⟨by rfl, ?_⟩) ?_ ?_
                            rotate_left
                            · intro w'
                              go_simp
                              with_reducible rfl
                            rotate_left
                            · simp only [Act.put, List.setIfInBounds_toArray, List.set_cons_zero, List.set_cons_succ, i64_w, i32_w]
                              rfl
                            refine take_ (i := 3) (N := some 46) (v := ?_) (a' := ?_) #[true, true, true, true, true, true, true, true, false, true, false, false, false] rfl rfl (take_ofW HT_.out HW_.out (by kernel_rfl)) (fun _ _ _ h => h) (Or.inl ⟨by rfl, ?_⟩) hHeld ?_ ?_
                            rotate_left
                            · rintro w' ⟨s0, s1, s2⟩
                              go_simp
                              with_reducible rfl
                            rotate_left
                            · simp only [Act.put, List.setIfInBounds_toArray, List.set_cons_zero, List.set_cons_succ, i64_w, i32_w]
                              rfl
                            refine take_ (i := 8) (N := some 51) (v := ?_) (a' := ?_) #[true, true, true, true, true, true, true, true, true, true, false, false, false] rfl rfl (take_ofW HT_.out HW_.out (by kernel_rfl)) (fun _ _ _ h => h) (Or.inl ⟨by rfl, ?_⟩) hHeld ?_ ?_
                            rotate_left
                            · rintro w' ⟨s0, s1, s2⟩
                              go_simp
                              with_reducible rfl
                            rotate_left
                            · simp only [Act.put, List.setIfInBounds_toArray, List.set_cons_zero, List.set_cons_succ, i64_w, i32_w]
                              rfl
                            refine pure_ (i := 10) (N := some 53) (v := ?_) (a' := ?_) #[true, true, true, true, true, true, true, true, true, true, true, false, false] rfl rfl (any_of HT_.out (by kernel_rfl)) (fun _ _ _ h => h) (Or.inl ⟨by rfl, ?_⟩) ?_ ?_
                            rotate_left
                            · intro w'
                              go_simp
                              with_reducible rfl
                            rotate_left
                            · simp only [Act.put, List.setIfInBounds_toArray, List.set_cons_zero, List.set_cons_succ, i64_w, i32_w]
                              rfl
                            refine take_ (i := 11) (N := some 54) (v := ?_) (a' := ?_) #[true, true, true, true, true, true, true, true, true, true, true, true, false] rfl rfl (take_ofW HT_.out HW_.out (by kernel_rfl)) (fun _ _ _ h => h) (Or.inl ⟨by rfl, ?_⟩) hHeld ?_ ?_
                            rotate_left
                            · rintro w' ⟨s0, s1, s2⟩
                              go_simp
                              with_reducible rfl
                            rotate_left
                            · simp only [Act.put, List.setIfInBounds_toArray, List.set_cons_zero, List.set_cons_succ, i64_w, i32_w]
                              rfl
                            refine one_ (i := 12) (N := some 55) #[true, true, true, true, true, true, true, true, true, true, true, true, true] rfl rfl (one_of HT_.out (by kernel_rfl)) (by decide) (fun K hK => ?_)
                            refine goes_ Try.func38 (by kernel_rfl) rfl #[.slice (some ad193) (rd_L4 l1 x6_1).length c191_0, .int .i64 x7_2, .int .i64 (rd (rd_L4 l1 x6_1) x7_2)] (by rfl) rfl rfl (by (try simp only [List.map_toArray, List.map_cons, List.map_nil]); first | done | rfl | (simp only [List.length_drop, List.length_take]; rfl)) ?_
                            with_reducible refine (tangramref11_stands.calls k2 _ _ (rd_L4 l1 x6_1) x7_2 (rd (rd_L4 l1 x6_1) x7_2) false _ ?side1 ?side2 A18.out).mono ?_
                            (case side1 => repeat (first | exact (Kd.C_below HR191_0.out HB.out) | (with_reducible refine Kd.C_alloc ?_ _) | (with_reducible refine Kd.C_drewN ?_ _) | (with_reducible refine Kd.C_drew ?_)))
                            (case side2 => exact HC191_0.out)
                            rintro e w' ⟨rfl, ⟨nd, rfl⟩⟩
                            refine ⟨_, rfl, ?_⟩
                            refine hK.out _ _ ⟨((HB.out.cell (World.block_lt_of_cell? w _ hw191_0)).trans hw191_0), ((HB.out.cell (World.block_lt_of_cell? w _ hw192_0)).trans hw192_0), ((HB.out.cell (World.block_lt_of_cell? w _ hw193_0)).trans hw193_0)⟩ (fun hHeld => ?_)
                            clear hK K
                            refine norm_ (a' := ?_) ?_ ?_
                            rotate_left
                            · show Act.put _ (some 55) _ = _
                              simp only [Act.put, List.setIfInBounds_toArray, List.set_cons_zero, List.set_cons_succ, i64_w, i32_w]
                              rfl
                            refine done_ (done_of HT_.out (by kernel_rfl)) ?_
                            try go_wp2
                            go_roundg k2
                            case measure => have := HK1.out; have := HK2.out; omega
                            case rel => exact ⟨(wrap64 (x7_2 + 1)), (by first | rfl | (simp; done) | (simp [*]; done)), H', ⟨by have := HK1.out; have := HK2.out; omega⟩, ⟨by (with_reducible repeat (first | refine blk_drewN ?_ _ | refine blk_drew ?_ | refine blk_alloc ?_ _)); exact BK183.out⟩, ⟨by repeat (first | (with_reducible first | exact HB.out | apply below_alloc | apply pw_below_drewN | apply below_drew1 | refine below_set ?_ GE183.out) | exact HB.out)⟩⟩
                        · replace c17 := Bool.eq_false_iff.mpr c17
                          subst c17
                          have H1 : (some (x6_1, 111)) = some (r1, r2) := by rw [if_neg (show ¬ (false = true) by decide)] at H; exact H
                          clear H
                          have H := H1
                          clear H1
                          simp only [Option.some.injEq, Prod.mk.injEq] at H
                          obtain ⟨rfl, rfl⟩ := H
                          have p185 : 0 ≤ (x6_1 : Int) := of_decide_eq_true (by first | (with_reducible assumption) | assumption)
                          have q185 : x6_1 < (l1.length : Int) := of_decide_eq_true (by first | (with_reducible assumption) | assumption)
                          obtain ⟨ad185, A185_0, c185_0, e185, hx185_0, hl185_0, hi185_0⟩ := at_L4 HR1.out x6_1 p185 q185
                          cases e185
                          replace hx185_0 := (HB.out.cell (World.block_lt_of_cell? w _ hx185_0)).trans hx185_0
                          have HR185_0 := Aside0.mk hi185_0
                          have HC185_0 := Aside0.mk hl185_0
                          clear hi185_0 hl185_0
                          replace p185 := eq_true p185
                          replace q185 := eq_true q185
                          try go_wp2
                          have n0_ := Aside0.mk (blk_drew BK183.out)
                          have n1_ := Aside0.mk (below_drew1 HB.out)
                          clear BK183
                          clear HB
                          have BK183 := n0_
                          have HB := n1_
                          clear n0_ n1_
                          have p188 : 0 ≤ (x6_1 : Int) := of_decide_eq_true (by first | (with_reducible assumption) | assumption)
                          have q188 : x6_1 < (l1.length : Int) := of_decide_eq_true (by first | (with_reducible assumption) | assumption)
                          obtain ⟨ad188, A188_0, c188_0, e188, hx188_0, hl188_0, hi188_0⟩ := at_L4 HR1.out x6_1 p188 q188
                          have hw188_0 := hx188_0
                          obtain rfl : ad185 = ad188 := (by injection e188)
                          replace hx188_0 := (HB.out.cell (World.block_lt_of_cell? w _ hx188_0)).trans hx188_0
                          have HR188_0 := Aside0.mk hi188_0
                          have HC188_0 := Aside0.mk hl188_0
                          clear hi188_0 hl188_0
                          replace p188 := eq_true p188
                          replace q188 := eq_true q188
                          have p189 : 0 ≤ (x7_2 : Int) := of_decide_eq_true (by first | (with_reducible assumption) | assumption)
                          have q189 : x7_2 < ((rd_L4 l1 x6_1).length : Int) := of_decide_eq_true (by first | (with_reducible assumption) | assumption)
                          obtain ⟨ad189, e189, hx189_0⟩ := Kd.at_int HR188_0.out x7_2 p189 q189
                          have hw189_0 := hx189_0
                          cases e189
                          replace hx189_0 := (HB.out.cell (World.block_lt_of_cell? w _ hx189_0)).trans hx189_0
                          replace p189 := eq_true p189
                          replace q189 := eq_true q189
                          refine start_ (n := 11) (S := fun w' => w'.cell? ⟨gb183, 0, none⟩ = some (.int .i64 a0_0) ∧ w'.cell? ⟨gb183, 1, none⟩ = some (.slice A0_1 l0_1.length c0_1) ∧ w'.cell? (ad185.add (x6_1).toNat) = some (.slice (some ad189) (rd_L4 l1 x6_1).length c188_0) ∧ w'.cell? (ad189.add (x7_2).toNat) = some (.int .i64 (rd (rd_L4 l1 x6_1) x7_2))) (ds := []) #[false, false, false, false, false, false, false, false, false, false, false] (by kernel_rfl) rfl rfl ⟨(blk_cell BK183.out 0).trans rfl, (blk_cell BK183.out 1).trans rfl, ((HB.out.cell (World.block_lt_of_cell? w _ hw188_0)).trans hw188_0), ((HB.out.cell (World.block_lt_of_cell? w _ hw189_0)).trans hw189_0)⟩ (fun hHeld => ?_); refine with_tabW tangramref11_Check.tab11 tangramref11_Check.bits11 (fun HT_ HW_ => ?_)
                          generalize wr.drew = w26 at BK183 HB HR188_0 hx188_0 hx189_0 hHeld ⊢
                          refine pure_ (i := 1) (N := some 32) (v := ?_) (a' := ?_) #[false, true, false, false, false, false, false, false, false, false, false] rfl rfl (any_of HT_.out (by kernel_rfl)) (fun _ _ _ h => h) (Or.inl ⟨by rfl, ?_⟩) ?_ ?_
                          rotate_left
                          · intro w'
                            go_simp
                            with_reducible rfl
                          rotate_left
                          · simp only [Act.put, List.setIfInBounds_toArray, List.set_cons_zero, List.set_cons_succ, i64_w, i32_w]
                            rfl
                          refine pure_ (i := 2) (N := some 33) (v := ?_) (a' := ?_) #[false, true, true, false, false, false, false, false, false, false, false] rfl rfl (any_of HT_.out (by kernel_rfl)) (fun _ _ _ h => h) (Or.inl ⟨by rfl, ?_⟩) ?_ ?_
                          rotate_left
                          · intro w'
                            go_simp
                            with_reducible rfl
                          rotate_left
                          · simp only [Act.put, List.setIfInBounds_toArray, List.set_cons_zero, List.set_cons_succ, i64_w, i32_w]
                            rfl
                          refine pure_ (i := 3) (N := some 34) (v := ?_) (a' := ?_) #[false, true, true, true, false, false, false, false, false, false, false] rfl rfl (any_of HT_.out (by kernel_rfl)) (fun _ _ _ h => h) (Or.inl ⟨by rfl, ?_⟩) ?_ ?_
                          rotate_left
                          · intro w'
                            go_simp
                            with_reducible rfl
                          rotate_left
                          · simp only [Act.put, List.setIfInBounds_toArray, List.set_cons_zero, List.set_cons_succ, i64_w, i32_w]
                            rfl
                          refine pure_ (i := 5) (N := some 36) (v := ?_) (a' := ?_) #[false, true, true, true, false, true, false, false, false, false, false] rfl rfl (any_of HT_.out (by kernel_rfl)) (fun _ _ _ h => h) (Or.inl ⟨by rfl, ?_⟩) ?_ ?_
                          rotate_left
                          · intro w'
                            go_simp
                            with_reducible rfl
                          rotate_left
                          · simp only [Act.put, List.setIfInBounds_toArray, List.set_cons_zero, List.set_cons_succ, i64_w, i32_w]
                            rfl
                          refine pure_ (i := 8) (N := some 39) (v := ?_) (a' := ?_) #[false, true, true, true, false, true, false, false, true, false, false] rfl rfl (any_of HT_.out (by kernel_rfl)) (fun _ _ _ h => h) (Or.inl ⟨by rfl, ?_⟩) ?_ ?_
                          rotate_left
                          · intro w'
                            go_simp
                            with_reducible rfl
                          rotate_left
                          · simp only [Act.put, List.setIfInBounds_toArray, List.set_cons_zero, List.set_cons_succ, i64_w, i32_w]
                            rfl
                          refine take_ (i := 0) (N := some 31) (v := ?_) (a' := ?_) #[true, true, true, true, false, true, false, false, true, false, false] rfl rfl (take_ofW HT_.out HW_.out (by kernel_rfl)) (fun _ _ _ h => h) (Or.inl ⟨by rfl, ?_⟩) hHeld ?_ ?_
                          rotate_left
                          · rintro w' ⟨s0, s1, s2, s3⟩
                            go_simp
                            with_reducible rfl
                          rotate_left
                          · simp only [Act.put, List.setIfInBounds_toArray, List.set_cons_zero, List.set_cons_succ, i64_w, i32_w]
                            rfl
                          refine take_ (i := 4) (N := some 35) (v := ?_) (a' := ?_) #[true, true, true, true, true, true, false, false, true, false, false] rfl rfl (take_ofW HT_.out HW_.out (by kernel_rfl)) (fun _ _ _ h => h) (Or.inl ⟨by rfl, ?_⟩) hHeld ?_ ?_
                          rotate_left
                          · rintro w' ⟨s0, s1, s2, s3⟩
                            go_simp
                            with_reducible rfl
                          rotate_left
                          · simp only [Act.put, List.setIfInBounds_toArray, List.set_cons_zero, List.set_cons_succ, i64_w, i32_w]
                            rfl
                          refine pure_ (i := 6) (N := some 37) (v := ?_) (a' := ?_) #[true, true, true, true, true, true, true, false, true, false, false] rfl rfl (any_of HT_.out (by kernel_rfl)) (fun _ _ _ h => h) (Or.inl ⟨by rfl, ?_⟩) ?_ ?_
                          rotate_left
                          · intro w'
                            go_simp
                            with_reducible rfl
                          rotate_left
                          · simp only [Act.put, List.setIfInBounds_toArray, List.set_cons_zero, List.set_cons_succ, i64_w, i32_w]
                            rfl
                          refine take_ (i := 7) (N := some 38) (v := ?_) (a' := ?_) #[true, true, true, true, true, true, true, true, true, false, false] rfl rfl (take_ofW HT_.out HW_.out (by kernel_rfl)) (fun _ _ _ h => h) (Or.inl ⟨by rfl, ?_⟩) hHeld ?_ ?_
                          rotate_left
                          · rintro w' ⟨s0, s1, s2, s3⟩
                            go_simp
                            with_reducible rfl
                          rotate_left
                          · simp only [Act.put, List.setIfInBounds_toArray, List.set_cons_zero, List.set_cons_succ, i64_w, i32_w]
                            rfl
                          refine one_ (i := 9) (N := some 40) #[true, true, true, true, true, true, true, true, true, true, false] rfl rfl (one_of HT_.out (by kernel_rfl)) (by decide) (fun K hK => ?_)
                          refine goes_ Try.func37 (by kernel_rfl) rfl #[.agg #[.int .i64 a0_0, .slice A0_1 l0_1.length c0_1], .int .i64 (rd (rd_L4 l1 x6_1) x7_2), .int .i64 x6_1] (by rfl) rfl rfl (by (try simp only [List.map_toArray, List.map_cons, List.map_nil]); first | done | rfl | (simp only [List.length_drop, List.length_take]; rfl)) ?_
                          with_reducible refine (tangramref11_leaves.calls a0_0 _ _ l0_1 (rd (rd_L4 l1 x6_1) x7_2) x6_1 false _ ?side1 ?side2 A16.out).mono ?_
                          (case side1 => repeat (first | exact (Kd.C_below HR0_1.out HB.out) | (with_reducible refine Kd.C_alloc ?_ _) | (with_reducible refine Kd.C_drewN ?_ _) | (with_reducible refine Kd.C_drew ?_)))
                          (case side2 => exact HC0_1.out)
                          rintro e w27 ⟨rfl, hb⟩
                          refine ⟨_, rfl, ?_⟩
                          have n0_ := Aside0.mk (blk_below (g := gb183) (o := .cells #[.int .i64 a0_0, .slice A0_1 l0_1.length c0_1] 24 (0, 0)) (by (with_reducible repeat (first | refine blk_drewN ?_ _ | refine blk_drew ?_ | refine blk_alloc ?_ _)); exact BK183.out) hb)
                          have n1_ := Aside0.mk (below_step (by repeat (first | (with_reducible first | exact HB.out | apply below_alloc | apply pw_below_drewN | apply below_drew1 | refine below_set ?_ GE183.out) | exact HB.out)) hb)
                          clear BK183
                          clear HB
                          have BK183 := n0_
                          have HB := n1_
                          clear n0_ n1_
                          (try clear hb)
                          (try clear hb2)
                          (try clear hk)
                          (try clear hi)
                          refine hK.out _ _ ⟨(blk_cell BK183.out 0).trans rfl, (blk_cell BK183.out 1).trans rfl, ((HB.out.cell (World.block_lt_of_cell? w _ hw188_0)).trans hw188_0), ((HB.out.cell (World.block_lt_of_cell? w _ hw189_0)).trans hw189_0)⟩ (fun hHeld => ?_)
                          clear hK K
                          refine norm_ (a' := ?_) ?_ ?_
                          rotate_left
                          · show Act.put _ (some 40) _ = _
                            simp only [Act.put, List.setIfInBounds_toArray, List.set_cons_zero, List.set_cons_succ, i64_w, i32_w]
                            rfl
                          refine pure_ (i := 10) (N := some 41) (v := ?_) (a' := ?_) #[true, true, true, true, true, true, true, true, true, true, true] rfl rfl (any_of HT_.out (by kernel_rfl)) (fun _ _ _ h => h) (Or.inl ⟨by rfl, ?_⟩) ?_ ?_
                          rotate_left
                          · intro w'
                            go_simp
                            with_reducible rfl
                          rotate_left
                          · simp only [Act.put, List.setIfInBounds_toArray, List.set_cons_zero, List.set_cons_succ, i64_w, i32_w]
                            rfl
                          refine done_ (done_of HT_.out (by kernel_rfl)) ?_
                          try go_wp2
                          go_ret2
                          exact ⟨by first | rfl | (simp [errW_none, errW_some] <;> rfl) | (simp [*, errW_none, errW_some] <;> rfl), by repeat (first | (with_reducible first | exact HB.out | apply below_alloc | apply pw_below_drewN | apply below_drew1 | refine below_set ?_ GE183.out) | exact HB.out)⟩
                      · rw [if_neg c15] at H
                        exact absurd H (by simp)
                    · rw [if_neg c14] at H
                      have c14b0 : decide (x7_2 < ((rd_L4 l1 x6_1).length : Int)) = false := decide_eq_false c14
                      clear c14
                      replace H := Option.bind_eq_some_iff.mp H
                      obtain ⟨t187, A280, H⟩ := H
                      replace H : (if ((rd_L4 l1 x6_1).length : Int) < t187 then (some (x6_1, 113)) else (tangramref11_Check.l0 k2 l1 (wrap64 (x6_1 + 1)) a0_0 l0_1)) = some (r1, r2) := H
                      have A28 := Aside0.mk A280
                      clear A280
                      by_cases c29 : ((rd_L4 l1 x6_1).length : Int) < t187
                      · rw [if_pos c29] at H
                        have c29b0 : decide (((rd_L4 l1 x6_1).length : Int) < t187) = true := decide_eq_true c29
                        clear c29
                        simp only [Option.some.injEq, Prod.mk.injEq] at H
                        obtain ⟨rfl, rfl⟩ := H
                        have p185 : 0 ≤ (x6_1 : Int) := of_decide_eq_true (by first | (with_reducible assumption) | assumption)
                        have q185 : x6_1 < (l1.length : Int) := of_decide_eq_true (by first | (with_reducible assumption) | assumption)
                        obtain ⟨ad185, A185_0, c185_0, e185, hx185_0, hl185_0, hi185_0⟩ := at_L4 HR1.out x6_1 p185 q185
                        cases e185
                        replace hx185_0 := (HB.out.cell (World.block_lt_of_cell? w _ hx185_0)).trans hx185_0
                        have HR185_0 := Aside0.mk hi185_0
                        have HC185_0 := Aside0.mk hl185_0
                        clear hi185_0 hl185_0
                        replace p185 := eq_true p185
                        replace q185 := eq_true q185
                        try go_wp2
                        have n0_ := Aside0.mk (blk_drew BK183.out)
                        have n1_ := Aside0.mk (below_drew1 HB.out)
                        clear BK183
                        clear HB
                        have BK183 := n0_
                        have HB := n1_
                        clear n0_ n1_
                        have p186 : 0 ≤ (x6_1 : Int) := of_decide_eq_true (by first | (with_reducible assumption) | assumption)
                        have q186 : x6_1 < (l1.length : Int) := of_decide_eq_true (by first | (with_reducible assumption) | assumption)
                        obtain ⟨ad186, A186_0, c186_0, e186, hx186_0, hl186_0, hi186_0⟩ := at_L4 HR1.out x6_1 p186 q186
                        have hw186_0 := hx186_0
                        obtain rfl : ad185 = ad186 := (by injection e186)
                        replace hx186_0 := (HB.out.cell (World.block_lt_of_cell? w _ hx186_0)).trans hx186_0
                        have HR186_0 := Aside0.mk hi186_0
                        have HC186_0 := Aside0.mk hl186_0
                        clear hi186_0 hl186_0
                        replace p186 := eq_true p186
                        replace q186 := eq_true q186
                        refine start_ (n := 9) (S := fun w' => w'.cell? ⟨gb183, 0, none⟩ = some (.int .i64 a0_0) ∧ w'.cell? ⟨gb183, 1, none⟩ = some (.slice A0_1 l0_1.length c0_1) ∧ w'.cell? (ad185.add (x6_1).toNat) = some (.slice A186_0 (rd_L4 l1 x6_1).length c186_0)) (ds := []) #[false, false, false, false, false, false, false, false, false] (by kernel_rfl) rfl rfl ⟨(blk_cell BK183.out 0).trans rfl, (blk_cell BK183.out 1).trans rfl, ((HB.out.cell (World.block_lt_of_cell? w _ hw186_0)).trans hw186_0)⟩ (fun hHeld => ?_); refine with_tabW tangramref11_Check.tab15 tangramref11_Check.bits15 (fun HT_ HW_ => ?_)
                        generalize wr.drew = w30 at BK183 HB HR186_0 hx186_0 hHeld ⊢
                        refine pure_ (i := 0) (N := some 57) (v := ?_) (a' := ?_) #[true, false, false, false, false, false, false, false, false] rfl rfl (any_of HT_.out (by kernel_rfl)) (fun _ _ _ h => h) (Or.inl ⟨by rfl, ?_⟩) ?_ ?_
                        rotate_left
                        · intro w'
                          go_simp
                          with_reducible rfl
                        rotate_left
                        · simp only [Act.put, List.setIfInBounds_toArray, List.set_cons_zero, List.set_cons_succ, i64_w, i32_w]
                          rfl
                        refine pure_ (i := 1) (N := some 58) (v := ?_) (a' := ?_) #[true, true, false, false, false, false, false, false, false] rfl rfl (any_of HT_.out (by kernel_rfl)) (fun _ _ _ h => h) (Or.inl ⟨by rfl, ?_⟩) ?_ ?_
                        rotate_left
                        · intro w'
                          go_simp
                          with_reducible rfl
                        rotate_left
                        · simp only [Act.put, List.setIfInBounds_toArray, List.set_cons_zero, List.set_cons_succ, i64_w, i32_w]
                          rfl
                        refine pure_ (i := 2) (N := some 59) (v := ?_) (a' := ?_) #[true, true, true, false, false, false, false, false, false] rfl rfl (any_of HT_.out (by kernel_rfl)) (fun _ _ _ h => h) (Or.inl ⟨by rfl, ?_⟩) ?_ ?_
                        rotate_left
                        · intro w'
                          go_simp
                          with_reducible rfl
                        rotate_left
                        · simp only [Act.put, List.setIfInBounds_toArray, List.set_cons_zero, List.set_cons_succ, i64_w, i32_w]
                          rfl
                        refine pure_ (i := 6) (N := some 63) (v := ?_) (a' := ?_) #[true, true, true, false, false, false, true, false, false] rfl rfl (any_of HT_.out (by kernel_rfl)) (fun _ _ _ h => h) (Or.inl ⟨by rfl, ?_⟩) ?_ ?_
                        rotate_left
                        · intro w'
                          go_simp
                          with_reducible rfl
                        rotate_left
                        · simp only [Act.put, List.setIfInBounds_toArray, List.set_cons_zero, List.set_cons_succ, i64_w, i32_w]
                          rfl
                        refine take_ (i := 3) (N := some 60) (v := ?_) (a' := ?_) #[true, true, true, true, false, false, true, false, false] rfl rfl (take_ofW HT_.out HW_.out (by kernel_rfl)) (fun _ _ _ h => h) (Or.inl ⟨by rfl, ?_⟩) hHeld ?_ ?_
                        rotate_left
                        · rintro w' ⟨s0, s1, s2⟩
                          go_simp
                          with_reducible rfl
                        rotate_left
                        · simp only [Act.put, List.setIfInBounds_toArray, List.set_cons_zero, List.set_cons_succ, i64_w, i32_w]
                          rfl
                        refine pure_ (i := 4) (N := some 61) (v := ?_) (a' := ?_) #[true, true, true, true, true, false, true, false, false] rfl rfl (any_of HT_.out (by kernel_rfl)) (fun _ _ _ h => h) (Or.inl ⟨by rfl, ?_⟩) ?_ ?_
                        rotate_left
                        · intro w'
                          go_simp
                          with_reducible rfl
                        rotate_left
                        · simp only [Act.put, List.setIfInBounds_toArray, List.set_cons_zero, List.set_cons_succ, i64_w, i32_w]
                          rfl
                        refine take_ (i := 5) (N := some 62) (v := ?_) (a' := ?_) #[true, true, true, true, true, true, true, false, false] rfl rfl (take_ofW HT_.out HW_.out (by kernel_rfl)) (fun _ _ _ h => h) (Or.inl ⟨by rfl, ?_⟩) hHeld ?_ ?_
                        rotate_left
                        · rintro w' ⟨s0, s1, s2⟩
                          go_simp
                          with_reducible rfl
                        rotate_left
                        · simp only [Act.put, List.setIfInBounds_toArray, List.set_cons_zero, List.set_cons_succ, i64_w, i32_w]
                          rfl
                        refine one_ (i := 7) (N := some 64) #[true, true, true, true, true, true, true, true, false] rfl rfl (one_of HT_.out (by kernel_rfl)) (by decide) (fun K hK => ?_)
                        refine goes_ Try.func39 (by kernel_rfl) rfl #[.agg #[.int .i64 a0_0, .slice A0_1 l0_1.length c0_1], .int .i64 x6_1] (by rfl) rfl rfl (by (try simp only [List.map_toArray, List.map_cons, List.map_nil]); first | done | rfl | (simp only [List.length_drop, List.length_take]; rfl)) ?_
                        with_reducible refine (tangramref11_degree.calls k2 a0_0 _ _ l0_1 x6_1 t187 _ ?side1 ?side2 A28.out).mono ?_
                        (case side1 => repeat (first | exact (Kd.C_below HR0_1.out HB.out) | (with_reducible refine Kd.C_alloc ?_ _) | (with_reducible refine Kd.C_drewN ?_ _) | (with_reducible refine Kd.C_drew ?_)))
                        (case side2 => exact HC0_1.out)
                        rintro e w31 ⟨rfl, hb⟩
                        refine ⟨_, rfl, ?_⟩
                        have n0_ := Aside0.mk (blk_below (g := gb183) (o := .cells #[.int .i64 a0_0, .slice A0_1 l0_1.length c0_1] 24 (0, 0)) (by (with_reducible repeat (first | refine blk_drewN ?_ _ | refine blk_drew ?_ | refine blk_alloc ?_ _)); exact BK183.out) hb)
                        have n1_ := Aside0.mk (below_step (by repeat (first | (with_reducible first | exact HB.out | apply below_alloc | apply pw_below_drewN | apply below_drew1 | refine below_set ?_ GE183.out) | exact HB.out)) hb)
                        clear BK183
                        clear HB
                        have BK183 := n0_
                        have HB := n1_
                        clear n0_ n1_
                        (try clear hb)
                        (try clear hb2)
                        (try clear hk)
                        (try clear hi)
                        refine hK.out _ _ ⟨(blk_cell BK183.out 0).trans rfl, (blk_cell BK183.out 1).trans rfl, ((HB.out.cell (World.block_lt_of_cell? w _ hw186_0)).trans hw186_0)⟩ (fun hHeld => ?_)
                        clear hK K
                        refine norm_ (a' := ?_) ?_ ?_
                        rotate_left
                        · show Act.put _ (some 64) _ = _
                          simp only [Act.put, List.setIfInBounds_toArray, List.set_cons_zero, List.set_cons_succ, i64_w, i32_w]
                          rfl
                        refine pure_ (i := 8) (N := some 65) (v := ?_) (a' := ?_) #[true, true, true, true, true, true, true, true, true] rfl rfl (any_of HT_.out (by kernel_rfl)) (fun _ _ _ h => h) (Or.inl ⟨by rfl, ?_⟩) ?_ ?_
                        rotate_left
                        · intro w'
                          go_simp
                          with_reducible rfl
                        rotate_left
                        · simp only [Act.put, List.setIfInBounds_toArray, List.set_cons_zero, List.set_cons_succ, i64_w, i32_w]
                          rfl
                        refine done_ (done_of HT_.out (by kernel_rfl)) ?_
                        try go_wp2
                        go_ret2
                        exact ⟨by first | rfl | (simp [errW_none, errW_some] <;> rfl) | (simp [*, errW_none, errW_some] <;> rfl), by repeat (first | (with_reducible first | exact HB.out | apply below_alloc | apply pw_below_drewN | apply below_drew1 | refine below_set ?_ GE183.out) | exact HB.out)⟩
                      · rw [if_neg c29] at H
                        have c29b0 : decide (((rd_L4 l1 x6_1).length : Int) < t187) = false := decide_eq_false c29
                        clear c29
                        have H' := Aside0.mk H
                        clear H
                        have p185 : 0 ≤ (x6_1 : Int) := of_decide_eq_true (by first | (with_reducible assumption) | assumption)
                        have q185 : x6_1 < (l1.length : Int) := of_decide_eq_true (by first | (with_reducible assumption) | assumption)
                        obtain ⟨ad185, A185_0, c185_0, e185, hx185_0, hl185_0, hi185_0⟩ := at_L4 HR1.out x6_1 p185 q185
                        cases e185
                        replace hx185_0 := (HB.out.cell (World.block_lt_of_cell? w _ hx185_0)).trans hx185_0
                        have HR185_0 := Aside0.mk hi185_0
                        have HC185_0 := Aside0.mk hl185_0
                        clear hi185_0 hl185_0
                        replace p185 := eq_true p185
                        replace q185 := eq_true q185
                        try go_wp2
                        have n0_ := Aside0.mk (blk_drew BK183.out)
                        have n1_ := Aside0.mk (below_drew1 HB.out)
                        clear BK183
                        clear HB
                        have BK183 := n0_
                        have HB := n1_
                        clear n0_ n1_
                        have p186 : 0 ≤ (x6_1 : Int) := of_decide_eq_true (by first | (with_reducible assumption) | assumption)
                        have q186 : x6_1 < (l1.length : Int) := of_decide_eq_true (by first | (with_reducible assumption) | assumption)
                        obtain ⟨ad186, A186_0, c186_0, e186, hx186_0, hl186_0, hi186_0⟩ := at_L4 HR1.out x6_1 p186 q186
                        have hw186_0 := hx186_0
                        obtain rfl : ad185 = ad186 := (by injection e186)
                        replace hx186_0 := (HB.out.cell (World.block_lt_of_cell? w _ hx186_0)).trans hx186_0
                        have HR186_0 := Aside0.mk hi186_0
                        have HC186_0 := Aside0.mk hl186_0
                        clear hi186_0 hl186_0
                        replace p186 := eq_true p186
                        replace q186 := eq_true q186
                        refine start_ (n := 9) (S := fun w' => w'.cell? ⟨gb183, 0, none⟩ = some (.int .i64 a0_0) ∧ w'.cell? ⟨gb183, 1, none⟩ = some (.slice A0_1 l0_1.length c0_1) ∧ w'.cell? (ad185.add (x6_1).toNat) = some (.slice A186_0 (rd_L4 l1 x6_1).length c186_0)) (ds := []) #[false, false, false, false, false, false, false, false, false] (by kernel_rfl) rfl rfl ⟨(blk_cell BK183.out 0).trans rfl, (blk_cell BK183.out 1).trans rfl, ((HB.out.cell (World.block_lt_of_cell? w _ hw186_0)).trans hw186_0)⟩ (fun hHeld => ?_); refine with_tabW tangramref11_Check.tab15 tangramref11_Check.bits15 (fun HT_ HW_ => ?_)
                        generalize wr.drew = w32 at BK183 HB HR186_0 hx186_0 hHeld ⊢
                        refine pure_ (i := 0) (N := some 57) (v := ?_) (a' := ?_) #[true, false, false, false, false, false, false, false, false] rfl rfl (any_of HT_.out (by kernel_rfl)) (fun _ _ _ h => h) (Or.inl ⟨by rfl, ?_⟩) ?_ ?_
                        rotate_left
                        · intro w'
                          go_simp
                          with_reducible rfl
                        rotate_left
                        · simp only [Act.put, List.setIfInBounds_toArray, List.set_cons_zero, List.set_cons_succ, i64_w, i32_w]
                          rfl
                        refine pure_ (i := 1) (N := some 58) (v := ?_) (a' := ?_) #[true, true, false, false, false, false, false, false, false] rfl rfl (any_of HT_.out (by kernel_rfl)) (fun _ _ _ h => h) (Or.inl ⟨by rfl, ?_⟩) ?_ ?_
                        rotate_left
                        · intro w'
                          go_simp
                          with_reducible rfl
                        rotate_left
                        · simp only [Act.put, List.setIfInBounds_toArray, List.set_cons_zero, List.set_cons_succ, i64_w, i32_w]
                          rfl
                        refine pure_ (i := 2) (N := some 59) (v := ?_) (a' := ?_) #[true, true, true, false, false, false, false, false, false] rfl rfl (any_of HT_.out (by kernel_rfl)) (fun _ _ _ h => h) (Or.inl ⟨by rfl, ?_⟩) ?_ ?_
                        rotate_left
                        · intro w'
                          go_simp
                          with_reducible rfl
                        rotate_left
                        · simp only [Act.put, List.setIfInBounds_toArray, List.set_cons_zero, List.set_cons_succ, i64_w, i32_w]
                          rfl
                        refine pure_ (i := 6) (N := some 63) (v := ?_) (a' := ?_) #[true, true, true, false, false, false, true, false, false] rfl rfl (any_of HT_.out (by kernel_rfl)) (fun _ _ _ h => h) (Or.inl ⟨by rfl, ?_⟩) ?_ ?_
                        rotate_left
                        · intro w'
                          go_simp
                          with_reducible rfl
                        rotate_left
                        · simp only [Act.put, List.setIfInBounds_toArray, List.set_cons_zero, List.set_cons_succ, i64_w, i32_w]
                          rfl
                        refine take_ (i := 3) (N := some 60) (v := ?_) (a' := ?_) #[true, true, true, true, false, false, true, false, false] rfl rfl (take_ofW HT_.out HW_.out (by kernel_rfl)) (fun _ _ _ h => h) (Or.inl ⟨by rfl, ?_⟩) hHeld ?_ ?_
                        rotate_left
                        · rintro w' ⟨s0, s1, s2⟩
                          go_simp
                          with_reducible rfl
                        rotate_left
                        · simp only [Act.put, List.setIfInBounds_toArray, List.set_cons_zero, List.set_cons_succ, i64_w, i32_w]
                          rfl
                        refine pure_ (i := 4) (N := some 61) (v := ?_) (a' := ?_) #[true, true, true, true, true, false, true, false, false] rfl rfl (any_of HT_.out (by kernel_rfl)) (fun _ _ _ h => h) (Or.inl ⟨by rfl, ?_⟩) ?_ ?_
                        rotate_left
                        · intro w'
                          go_simp
                          with_reducible rfl
                        rotate_left
                        · simp only [Act.put, List.setIfInBounds_toArray, List.set_cons_zero, List.set_cons_succ, i64_w, i32_w]
                          rfl
                        refine take_ (i := 5) (N := some 62) (v := ?_) (a' := ?_) #[true, true, true, true, true, true, true, false, false] rfl rfl (take_ofW HT_.out HW_.out (by kernel_rfl)) (fun _ _ _ h => h) (Or.inl ⟨by rfl, ?_⟩) hHeld ?_ ?_
                        rotate_left
                        · rintro w' ⟨s0, s1, s2⟩
                          go_simp
                          with_reducible rfl
                        rotate_left
                        · simp only [Act.put, List.setIfInBounds_toArray, List.set_cons_zero, List.set_cons_succ, i64_w, i32_w]
                          rfl
                        refine one_ (i := 7) (N := some 64) #[true, true, true, true, true, true, true, true, false] rfl rfl (one_of HT_.out (by kernel_rfl)) (by decide) (fun K hK => ?_)
                        refine goes_ Try.func39 (by kernel_rfl) rfl #[.agg #[.int .i64 a0_0, .slice A0_1 l0_1.length c0_1], .int .i64 x6_1] (by rfl) rfl rfl (by (try simp only [List.map_toArray, List.map_cons, List.map_nil]); first | done | rfl | (simp only [List.length_drop, List.length_take]; rfl)) ?_
                        with_reducible refine (tangramref11_degree.calls k2 a0_0 _ _ l0_1 x6_1 t187 _ ?side1 ?side2 A28.out).mono ?_
                        (case side1 => repeat (first | exact (Kd.C_below HR0_1.out HB.out) | (with_reducible refine Kd.C_alloc ?_ _) | (with_reducible refine Kd.C_drewN ?_ _) | (with_reducible refine Kd.C_drew ?_)))
                        (case side2 => exact HC0_1.out)
                        rintro e w33 ⟨rfl, hb⟩
                        refine ⟨_, rfl, ?_⟩
                        have n0_ := Aside0.mk (blk_below (g := gb183) (o := .cells #[.int .i64 a0_0, .slice A0_1 l0_1.length c0_1] 24 (0, 0)) (by (with_reducible repeat (first | refine blk_drewN ?_ _ | refine blk_drew ?_ | refine blk_alloc ?_ _)); exact BK183.out) hb)
                        have n1_ := Aside0.mk (below_step (by repeat (first | (with_reducible first | exact HB.out | apply below_alloc | apply pw_below_drewN | apply below_drew1 | refine below_set ?_ GE183.out) | exact HB.out)) hb)
                        clear BK183
                        clear HB
                        have BK183 := n0_
                        have HB := n1_
                        clear n0_ n1_
                        (try clear hb)
                        (try clear hb2)
                        (try clear hk)
                        (try clear hi)
                        refine hK.out _ _ ⟨(blk_cell BK183.out 0).trans rfl, (blk_cell BK183.out 1).trans rfl, ((HB.out.cell (World.block_lt_of_cell? w _ hw186_0)).trans hw186_0)⟩ (fun hHeld => ?_)
                        clear hK K
                        refine norm_ (a' := ?_) ?_ ?_
                        rotate_left
                        · show Act.put _ (some 64) _ = _
                          simp only [Act.put, List.setIfInBounds_toArray, List.set_cons_zero, List.set_cons_succ, i64_w, i32_w]
                          rfl
                        refine pure_ (i := 8) (N := some 65) (v := ?_) (a' := ?_) #[true, true, true, true, true, true, true, true, true] rfl rfl (any_of HT_.out (by kernel_rfl)) (fun _ _ _ h => h) (Or.inl ⟨by rfl, ?_⟩) ?_ ?_
                        rotate_left
                        · intro w'
                          go_simp
                          with_reducible rfl
                        rotate_left
                        · simp only [Act.put, List.setIfInBounds_toArray, List.set_cons_zero, List.set_cons_succ, i64_w, i32_w]
                          rfl
                        refine done_ (done_of HT_.out (by kernel_rfl)) ?_
                        try go_wp2
                        go_roundg k2
                        case measure => have := HK1.out; have := HK2.out; omega
                        case rel => exact ⟨(wrap64 (x6_1 + 1)), (by first | rfl | (simp; done) | (simp [*]; done)), H', ⟨by have := HK1.out; have := HK2.out; omega⟩, ⟨by (with_reducible repeat (first | refine blk_drewN ?_ _ | refine blk_drew ?_ | refine blk_alloc ?_ _)); exact BK183.out⟩, ⟨by repeat (first | (with_reducible first | exact HB.out | apply below_alloc | apply pw_below_drewN | apply below_drew1 | refine below_set ?_ GE183.out) | exact HB.out)⟩⟩
                  · rw [if_neg c13] at H
                    exact absurd H (by simp)
                · rw [if_neg c12] at H
                  exact absurd H (by simp)
          · rw [if_neg c10] at H
            have c10b0 : decide (x6_1 < a0_0) = false := decide_eq_false c10
            clear c10
            simp only [Option.some.injEq, Prod.mk.injEq] at H
            obtain ⟨rfl, rfl⟩ := H
            have hcz34_0 : wr.cell? ⟨gb183, 0, none⟩ = some (.int .i64 a0_0) := (blk_cell BK183.out 0).trans rfl
            have hcz34_1 : wr.cell? ⟨gb183, 1, none⟩ = some (.slice A0_1 l0_1.length c0_1) := (blk_cell BK183.out 1).trans rfl
            have hfz34_0 := blk_frozen BK183.out 0
            have hfz34_1 := blk_frozen BK183.out 1
            go_wp2
            go_ret2
            exact ⟨by first | rfl | (simp [errW_none, errW_some] <;> rfl) | (simp [*, errW_none, errW_some] <;> rfl), by repeat (first | (with_reducible first | exact HB.out | apply below_alloc | apply pw_below_drewN | apply below_drew1 | refine below_set ?_ GE183.out) | exact HB.out)⟩
    · rw [if_neg c5] at H
      have c5b0 : ((l1.length : Int) == a0_0) = false := beq_eq_false_iff_ne.mpr c5
      have c5b1 : ((l1.length : Int) != a0_0) = true := bne_iff_ne.mpr c5
      simp only [Option.some.injEq, Prod.mk.injEq] at H
      obtain ⟨rfl, rfl⟩ := H
      go_enter Try.func16, Try.ntmps16
      go_wp2_with (first | ((with_reducible refine gate_dst (N := 2) rfl ?_); refine box_event ?hg (N := 2) ?hd (cs := #[.int .i64 a0_0, .slice A0_1 l0_1.length c0_1]) (t := 24) ?hr ?_; (case hd => rfl); (case hg => rfl); (case hr => first | (go_simp; done) | (go_simp; rfl)); intro gb183 hg w35 hbox hb; have n0_ := Aside0.mk (below_step (by repeat (first | (with_reducible first | exact HB.out | apply below_alloc | apply pw_below_drewN | apply below_drew1) | exact HB.out)) hb); have n1_ := Aside0.mk (hbox); have n2_ := Aside0.mk ((by rw [hg]; exact (below_size (by repeat (first | (with_reducible first | exact HB.out | apply below_alloc | apply pw_below_drewN | apply below_drew1) | exact HB.out))) : w.heap.size ≤ gb183)); have n3_ := Aside0.mk ((by rw [hg]; exact (below_size (by repeat (first | (with_reducible first | exact HB.out | apply below_alloc | apply pw_below_drewN | apply below_drew1) | exact HB.out))) : w.heap.size ≤ gb183)); clear HB; have HB := n0_; have BK183 := n1_; have GW183 := n2_; have GE183 := n3_; clear n0_ n1_ n2_ n3_; clear hb hbox hg; have hcz36_0 : w35.cell? ⟨gb183, 0, none⟩ = some (.int .i64 a0_0) := (blk_cell BK183.out 0).trans rfl; have hcz36_1 : w35.cell? ⟨gb183, 1, none⟩ = some (.slice A0_1 l0_1.length c0_1) := (blk_cell BK183.out 1).trans rfl; have hfz36_0 := blk_frozen BK183.out 0; have hfz36_1 := blk_frozen BK183.out 1) | ((with_reducible refine gate_callee (f := 13) rfl ?_); refine goesL_ (some 9) rfl rfl Try.func13 (by kernel_rfl) rfl #[.agg #[.int .i64 a0_0, .slice A0_1 l0_1.length c0_1]] rfl (by (try simp only [List.map_toArray, List.map_cons, List.map_nil]); first | done | rfl | (simp only [List.length_drop, List.length_take]; rfl)) ?_; (with_reducible refine (tangramref03_Valid.calls k a0_0 _ _ l0_1 true _ ?side1 ?side2 A3.out).mono ?_); (case side1 => repeat (first | exact (Kd.C_below HR0_1.out HB.out) | (with_reducible refine Kd.C_alloc ?_ _) | (with_reducible refine Kd.C_drewN ?_ _) | (with_reducible refine Kd.C_drew ?_))); (case side2 => exact HC0_1.out); rintro e w37 ⟨rfl, hb⟩; refine ⟨_, rfl, ?_⟩; have n0_ := Aside0.mk (blk_below (g := gb183) (o := .cells #[.int .i64 a0_0, .slice A0_1 l0_1.length c0_1] 24 (0, 0)) (by (with_reducible repeat (first | refine blk_drewN ?_ _ | refine blk_drew ?_ | refine blk_alloc ?_ _)); exact BK183.out) hb); have n1_ := Aside0.mk (below_step (by repeat (first | (with_reducible first | exact HB.out | apply below_alloc | apply pw_below_drewN | apply below_drew1 | refine below_set ?_ GE183.out) | exact HB.out)) hb); clear BK183; clear HB; have BK183 := n0_; have HB := n1_; clear n0_ n1_; (try clear hb); (try clear hb2); (try clear hk); (try clear hi); have hcz38_0 : w37.cell? ⟨gb183, 0, none⟩ = some (.int .i64 a0_0) := (blk_cell BK183.out 0).trans rfl; have hcz38_1 : w37.cell? ⟨gb183, 1, none⟩ = some (.slice A0_1 l0_1.length c0_1) := (blk_cell BK183.out 1).trans rfl; have hfz38_0 := blk_frozen BK183.out 0; have hfz38_1 := blk_frozen BK183.out 1))
      go_ret2
      exact ⟨by first | rfl | (simp [errW_none, errW_some] <;> rfl) | (simp [*, errW_none, errW_some] <;> rfl), by repeat (first | (with_reducible first | exact HB.out | apply below_alloc | apply pw_below_drewN | apply below_drew1 | refine below_set ?_ GE183.out) | exact HB.out)⟩
  · replace c4 := Bool.eq_false_iff.mpr c4
    subst c4
    have H1 : (some (0, 1)) = some (r1, r2) := by rw [if_neg (show ¬ (false = true) by decide)] at H; exact H
    clear H
    have H := H1
    clear H1
    simp only [Option.some.injEq, Prod.mk.injEq] at H
    obtain ⟨rfl, rfl⟩ := H
    go_enter Try.func16, Try.ntmps16
    go_wp2_with (first | ((with_reducible refine gate_dst (N := 2) rfl ?_); refine box_event ?hg (N := 2) ?hd (cs := #[.int .i64 a0_0, .slice A0_1 l0_1.length c0_1]) (t := 24) ?hr ?_; (case hd => rfl); (case hg => rfl); (case hr => first | (go_simp; done) | (go_simp; rfl)); intro gb183 hg w39 hbox hb; have n0_ := Aside0.mk (below_step (by repeat (first | (with_reducible first | exact HB.out | apply below_alloc | apply pw_below_drewN | apply below_drew1) | exact HB.out)) hb); have n1_ := Aside0.mk (hbox); have n2_ := Aside0.mk ((by rw [hg]; exact (below_size (by repeat (first | (with_reducible first | exact HB.out | apply below_alloc | apply pw_below_drewN | apply below_drew1) | exact HB.out))) : w.heap.size ≤ gb183)); have n3_ := Aside0.mk ((by rw [hg]; exact (below_size (by repeat (first | (with_reducible first | exact HB.out | apply below_alloc | apply pw_below_drewN | apply below_drew1) | exact HB.out))) : w.heap.size ≤ gb183)); clear HB; have HB := n0_; have BK183 := n1_; have GW183 := n2_; have GE183 := n3_; clear n0_ n1_ n2_ n3_; clear hb hbox hg; have hcz40_0 : w39.cell? ⟨gb183, 0, none⟩ = some (.int .i64 a0_0) := (blk_cell BK183.out 0).trans rfl; have hcz40_1 : w39.cell? ⟨gb183, 1, none⟩ = some (.slice A0_1 l0_1.length c0_1) := (blk_cell BK183.out 1).trans rfl; have hfz40_0 := blk_frozen BK183.out 0; have hfz40_1 := blk_frozen BK183.out 1) | ((with_reducible refine gate_callee (f := 13) rfl ?_); refine goesL_ (some 9) rfl rfl Try.func13 (by kernel_rfl) rfl #[.agg #[.int .i64 a0_0, .slice A0_1 l0_1.length c0_1]] rfl (by (try simp only [List.map_toArray, List.map_cons, List.map_nil]); first | done | rfl | (simp only [List.length_drop, List.length_take]; rfl)) ?_; (with_reducible refine (tangramref03_Valid.calls k a0_0 _ _ l0_1 false _ ?side1 ?side2 A3.out).mono ?_); (case side1 => repeat (first | exact (Kd.C_below HR0_1.out HB.out) | (with_reducible refine Kd.C_alloc ?_ _) | (with_reducible refine Kd.C_drewN ?_ _) | (with_reducible refine Kd.C_drew ?_))); (case side2 => exact HC0_1.out); rintro e w41 ⟨rfl, hb⟩; refine ⟨_, rfl, ?_⟩; have n0_ := Aside0.mk (blk_below (g := gb183) (o := .cells #[.int .i64 a0_0, .slice A0_1 l0_1.length c0_1] 24 (0, 0)) (by (with_reducible repeat (first | refine blk_drewN ?_ _ | refine blk_drew ?_ | refine blk_alloc ?_ _)); exact BK183.out) hb); have n1_ := Aside0.mk (below_step (by repeat (first | (with_reducible first | exact HB.out | apply below_alloc | apply pw_below_drewN | apply below_drew1 | refine below_set ?_ GE183.out) | exact HB.out)) hb); clear BK183; clear HB; have BK183 := n0_; have HB := n1_; clear n0_ n1_; (try clear hb); (try clear hb2); (try clear hk); (try clear hi)))
    go_ret2
    exact ⟨by first | rfl | (simp [errW_none, errW_some] <;> rfl) | (simp [*, errW_none, errW_some] <;> rfl), by repeat (first | (with_reducible first | exact HB.out | apply below_alloc | apply pw_below_drewN | apply below_drew1 | refine below_set ?_ GE183.out) | exact HB.out)⟩

end Go.Proofs.Ytkkhhbegeboonaa.GAll
-- Written by a program of this session (wip/tools/printx.py) over the kit's printer and texts of its own; it is no print of print.sh.



namespace Go.Proofs.Ytkkhhbegeboonaa.GAll
open Go.RowKit Go.Proofs.YtkkhhbegeboonaaW.PrintWords Go.Proofs.YtkkhhbegeboonaaW.PrintLast Go.Proofs.YtkkhhbegeboonaaW.PrintMore
attribute [local go_sem] max2_int min2_int max_two min_two max_three min_three max_four min_four   -- for this text's walks alone
set_option linter.unusedVariables false
set_option linter.unusedSimpArgs false

/-! ### rot.Around: told by hand -/
/-- all in its bounds -/
def rot_Around.fit (l : List S59) (r : List (List Int)) : Bool := decide (l.length ≤ 4194304) && (decide (r.length ≤ 1048576) && r.all fun row => decide (row.length ≤ 8388608) && row.all fun h => decide (0 ≤ Rot.twin h) && decide (Rot.twin h < ((2 * l.length : Nat) : Int)))
def rot_Around.f (k : Nat) (a0_0 : Int) (l0_1 : List S59) (l1 : List (List Int)) : Option (List (List Int) × Int) := (rot_Check.f k a0_0 l0_1 l1).bind fun t => if t.2 = 0 then (if rot_Around.fit l0_1 l1 = true then some (Rot.aroundOf (Rot.froms (l0_1.map fun x => (x.f0, x.f1))) l1, 0) else none) else some ([], t.2)
theorem rot_Around.mono : ∀ a0 a1 a2 k, LeO (rot_Around.f k a0 a1 a2) (rot_Around.f (k + 1) a0 a1 a2) := by
  intro a0 a1 a2 k
  unfold rot_Around.f
  exact LeO.bind (rot_Check.mono _ _ _ _) (fun _ => LeO.refl _)
theorem rot_Around.at_ {l : List S59} {r : List (List Int)} (h : rot_Around.fit l r = true) : l.length ≤ 4194304 ∧ r.length ≤ 1048576 ∧ ∀ v, v < r.length → (Mem.gl r v).length ≤ 8388608 ∧ ∀ j, j < (Mem.gl r v).length → 0 ≤ Rot.twin (Mem.gi (Mem.gl r v) j) ∧ Rot.twin (Mem.gi (Mem.gl r v) j) < ((2 * l.length : Nat) : Int) := by
  unfold rot_Around.fit at h
  rw [Bool.and_eq_true, Bool.and_eq_true, List.all_eq_true, decide_eq_true_eq, decide_eq_true_eq] at h
  refine ⟨h.1, h.2.1, fun v hv => ?_⟩
  have hm : Mem.gl r v ∈ r := by
    unfold Mem.gl
    rw [List.getD_eq_getElem?_getD, List.getElem?_eq_getElem hv]
    exact List.getElem_mem hv
  have h2 := h.2.2 _ hm
  rw [Bool.and_eq_true, List.all_eq_true, decide_eq_true_eq] at h2
  refine ⟨h2.1, fun j hj => ?_⟩
  have hj2 : Mem.gi (Mem.gl r v) j ∈ Mem.gl r v := by
    unfold Mem.gi
    rw [List.getD_eq_getElem?_getD, List.getElem?_eq_getElem hj]
    exact List.getElem_mem hj
  have h3 := h2.2 _ hj2
  rw [Bool.and_eq_true, decide_eq_true_eq, decide_eq_true_eq] at h3
  exact h3
set_option maxHeartbeats 1000000 in
theorem rot_Around.calls (k : Nat) (a0_0 : Int) (A0_1 : Option Addr) (c0_1 : Nat) (l0_1 : List (S59)) (A1 : Option Addr) (c1 : Nat) (l1 : List (List Int)) (r1 : List (List Int)) (r2 : Int) (w : World) (hr0_1 : Kd.C k59 w A0_1 l0_1.length l0_1) (hc0_1 : l0_1.length ≤ c0_1) (hr1 : Kd.C (Kd.slice 3 (Kd.int .i64)) w A1 l1.length l1) (hc1 : l1.length ≤ c1) (h : rot_Around.f k a0_0 l0_1 l1 = some (r1, r2)) :
    Calls Try.prog 18 #[.agg #[.int .i64 a0_0, .slice A0_1 l0_1.length c0_1], .slice A1 l1.length c1] w fun e w' => ∃ v0_ : Value, e = .returned (.tuple #[v0_, .int .i64 r2]) ∧ Kd.S (Kd.slice 3 (Kd.int .i64)) 28 w' w.heap.size (fun _ => True) v0_ r1 ∧ Below w.heap.size w w' := by
  obtain ⟨t, ht, h⟩ := Option.bind_eq_some_iff.mp h
  obtain ⟨t1, t2⟩ := t
  have hc : ∀ W : World, Below w.heap.size w W → Calls Try.prog 15 #[.agg #[.int .i64 a0_0, .slice A0_1 l0_1.length c0_1], .slice A1 l1.length c1] W fun e w' => e = .returned (.tuple #[.int .i64 t1, .int .i64 t2]) ∧ Below W.heap.size W w' :=
    fun W hW => rot_Check.calls k a0_0 A0_1 c0_1 l0_1 A1 c1 l1 t1 t2 W (Kd.C_below hr0_1 hW) hc0_1 (Kd.C_below hr1 hW) hc1 ht
  by_cases h0 : t2 = 0
  · subst h0
    rw [if_pos rfl] at h
    by_cases hf : rot_Around.fit l0_1 l1 = true
    · rw [if_pos hf] at h
      obtain ⟨g1, g2, g3⟩ := rot_Around.at_ hf
      obtain ⟨rfl, rfl⟩ : Rot.aroundOf (Rot.froms (l0_1.map fun x => (x.f0, x.f1))) l1 = r1 ∧ 0 = r2 := by simpa using h
      have hlm : (l0_1.map fun x => (x.f0, x.f1)).length = l0_1.length := List.length_map ..
      have hp := rot_Check.pairs hr0_1
      obtain ⟨es, hes⟩ : ∃ es, es = l0_1.map fun x => (x.f0, x.f1) := ⟨_, rfl⟩
      rw [← hes] at hlm hp ⊢
      rw [← hlm] at hc g1 g3 ⊢
      exact Rot.around_calls t1 a0_0 A0_1 c0_1 es A1 c1 l1 w hp g1 hr1 g2 (fun v hv => (g3 v hv).1) (fun v j hv hj => (g3 v hv).2 j hj) hc
    · rw [if_neg hf] at h; cases h
  · rw [if_neg h0] at h
    obtain ⟨rfl, rfl⟩ : ([] : List (List Int)) = r1 ∧ t2 = r2 := by simpa using h
    refine (Rot.around_bad a0_0 A0_1 l0_1.length c0_1 A1 l1.length c1 t1 t2 h0 w hc).mono ?_
    rintro e w' ⟨rfl, hb⟩
    exact ⟨_, rfl, Kd.S_nil _ _ _ _ _, hb⟩

/-! ### tangramref11_To: function 41 -/
def tangramref11_To.f (a0_0 : Int) (l0_1 : List (S59)) (a1 : Int) : Option (Int) := (tangramref11_From.f a0_0 l0_1 (Go.bits .xor .i64 a1 1)).bind fun t209 => (some t209)
set_option maxHeartbeats 8000000 in
set_option maxRecDepth 100000 in
theorem tangramref11_To.calls (a0_0 : Int) (A0_1 : Option Addr) (c0_1 : Nat) (l0_1 : List (S59)) (a1 : Int) (r : Int) (w : World) (hr0_1 : Kd.C k59 w A0_1 l0_1.length l0_1) (hc0_1 : l0_1.length ≤ c0_1) (h : tangramref11_To.f a0_0 l0_1 a1 = some r) :
    Calls Try.prog 41 #[.agg #[.int .i64 a0_0, .slice A0_1 l0_1.length c0_1], .int .i64 a1] w fun e w' => e = .returned (.int .i64 r) ∧ Below w.heap.size w w' := by
  have hu24 := Try.underlying24
  have HR0_1 := Aside0.mk hr0_1
  have HC0_1 := Aside0.mk hc0_1
  clear hr0_1 hc0_1
  have HB := Aside0.mk (Below.refl w.heap.size w)
  have H : ((tangramref11_From.f a0_0 l0_1 (Go.bits .xor .i64 a1 1)).bind fun t209 => (some t209)) = some r := h
  clear h
  replace H := Option.bind_eq_some_iff.mp H
  obtain ⟨t209, A30, H⟩ := H
  replace H : (some t209) = some r := H
  have A3 := Aside0.mk A30
  clear A30
  obtain rfl := Option.some.inj H
  go_enter Try.func41, Try.ntmps41
  go_wp2_with (first | ((with_reducible refine gate_dst (N := 2) rfl ?_); refine box_event ?hg (N := 2) ?hd (cs := #[.int .i64 a0_0, .slice A0_1 l0_1.length c0_1]) (t := 24) ?hr ?_; (case hd => rfl); (case hg => rfl); (case hr => first | (go_simp; done) | (go_simp; rfl)); intro gb208 hg w4 hbox hb; have n0_ := Aside0.mk (below_step (by repeat (first | (with_reducible first | exact HB.out | apply below_alloc | apply pw_below_drewN | apply below_drew1) | exact HB.out)) hb); have n1_ := Aside0.mk (hbox); have n2_ := Aside0.mk ((by rw [hg]; exact (below_size (by repeat (first | (with_reducible first | exact HB.out | apply below_alloc | apply pw_below_drewN | apply below_drew1) | exact HB.out))) : w.heap.size ≤ gb208)); have n3_ := Aside0.mk ((by rw [hg]; exact (below_size (by repeat (first | (with_reducible first | exact HB.out | apply below_alloc | apply pw_below_drewN | apply below_drew1) | exact HB.out))) : w.heap.size ≤ gb208)); clear HB; have HB := n0_; have BK208 := n1_; have GW208 := n2_; have GE208 := n3_; clear n0_ n1_ n2_ n3_; clear hb hbox hg; have hcz5_0 : w4.cell? ⟨gb208, 0, none⟩ = some (.int .i64 a0_0) := (blk_cell BK208.out 0).trans rfl; have hcz5_1 : w4.cell? ⟨gb208, 1, none⟩ = some (.slice A0_1 l0_1.length c0_1) := (blk_cell BK208.out 1).trans rfl; have hfz5_0 := blk_frozen BK208.out 0; have hfz5_1 := blk_frozen BK208.out 1) | ((with_reducible refine gate_callee (f := 14) rfl ?_); refine goesL_ (some 8) rfl rfl Try.func14 (by kernel_rfl) rfl #[.agg #[.int .i64 a0_0, .slice A0_1 l0_1.length c0_1], .int .i64 (Go.bits .xor .i64 a1 1)] rfl (by (try simp only [List.map_toArray, List.map_cons, List.map_nil]); first | done | rfl | (simp only [List.length_drop, List.length_take]; rfl)) ?_; (with_reducible refine (tangramref11_From.calls a0_0 _ _ l0_1 (Go.bits .xor .i64 a1 1) t209 _ ?side1 ?side2 A3.out).mono ?_); (case side1 => repeat (first | exact (Kd.C_below HR0_1.out HB.out) | (with_reducible refine Kd.C_alloc ?_ _) | (with_reducible refine Kd.C_drewN ?_ _) | (with_reducible refine Kd.C_drew ?_))); (case side2 => exact HC0_1.out); rintro e w6 ⟨rfl, hb⟩; refine ⟨_, rfl, ?_⟩; have n0_ := Aside0.mk (blk_below (g := gb208) (o := .cells #[.int .i64 a0_0, .slice A0_1 l0_1.length c0_1] 24 (0, 0)) (by (with_reducible repeat (first | refine blk_drewN ?_ _ | refine blk_drew ?_ | refine blk_alloc ?_ _)); exact BK208.out) hb); have n1_ := Aside0.mk (below_step (by repeat (first | (with_reducible first | exact HB.out | apply below_alloc | apply pw_below_drewN | apply below_drew1 | refine below_set ?_ GE208.out) | exact HB.out)) hb); clear BK208; clear HB; have BK208 := n0_; have HB := n1_; clear n0_ n1_; (try clear hb); (try clear hb2); (try clear hk); (try clear hi)))
  go_ret
  exact ⟨by first | rfl | (simp [errW_none, errW_some] <;> rfl) | (simp [*, errW_none, errW_some] <;> rfl), by repeat (first | (with_reducible first | exact HB.out | apply below_alloc | apply pw_below_drewN | apply below_drew1 | refine below_set ?_ GE208.out) | exact HB.out)⟩

end Go.Proofs.Ytkkhhbegeboonaa.GAll
-- Written by a program of this session (wip/tools/printx.py) over the kit's printer and texts of its own; it is no print of print.sh.



namespace Go.Proofs.Ytkkhhbegeboonaa.GAll
open Go.RowKit Go.Proofs.YtkkhhbegeboonaaW.PrintWords Go.Proofs.YtkkhhbegeboonaaW.PrintLast Go.Proofs.YtkkhhbegeboonaaW.PrintMore
attribute [local go_sem] max2_int min2_int max_two min_two max_three min_three max_four min_four   -- for this text's walks alone
set_option linter.unusedVariables false
set_option linter.unusedSimpArgs false

/-! ### tangramref11_Around: function 19 -/
mutual
def tangramref11_Around.l0 : Nat → List (List Int) → List (List Int) → Int → Int → List (S59) → Option ((List (List Int)) × Int)
  | 0, _, _, _, _, _ => none
  | k + 1, x1, x8, x9, x211000, x211001 => if x9 < (x1.length : Int) then (tangramref11_Around.l1 k x1 x8 x9 ([] : List Int) 0 x211000 x211001) else (some (x8, 0))
def tangramref11_Around.l1 : Nat → List (List Int) → List (List Int) → Int → List Int → Int → Int → List (S59) → Option ((List (List Int)) × Int)
  | 0, _, _, _, _, _, _, _ => none
  | k + 1, x1, x8, x9, x10, x11, x211000, x211001 => if 0 ≤ x9 then (if x9 < (x1.length : Int) then (if x11 < ((rd_L4 x1 x9).length : Int) then (if 0 ≤ x11 then ((tangramref11_To.f x211000 x211001 (rd (rd_L4 x1 x9) x11)).bind fun t216 => (if x10.length < 17592186044416 then (tangramref11_Around.l1 k x1 x8 x9 (x10 ++ [t216]) (wrap64 (x11 + 1)) x211000 x211001) else (none))) else (none)) else (if x8.length < 5864062014805 then (tangramref11_Around.l0 k x1 (x8 ++ [x10]) (wrap64 (x9 + 1)) x211000 x211001) else (none))) else (none)) else (none)
end
def tangramref11_Around.f (k : Nat) (a0_0 : Int) (l0_1 : List (S59)) (l1 : List (List Int)) : Option ((List (List Int)) × Int) := (tangramref11_Check.f k a0_0 l0_1 l1).bind fun bt211 => (if bt211.2 = 0 then (tangramref11_Around.l0 k l1 ([] : List (List Int)) 0 a0_0 l0_1) else (some (([] : List (List Int)), bt211.2)))
theorem tangramref11_Around.mono_l : ∀ k, (∀ y0 y1 y2 y3 y4, LeO (tangramref11_Around.l0 k y0 y1 y2 y3 y4) (tangramref11_Around.l0 (k + 1) y0 y1 y2 y3 y4)) ∧ (∀ y0 y1 y2 y3 y4 y5 y6, LeO (tangramref11_Around.l1 k y0 y1 y2 y3 y4 y5 y6) (tangramref11_Around.l1 (k + 1) y0 y1 y2 y3 y4 y5 y6))
  | 0 => ⟨fun _ _ _ _ _ r h => by simp [tangramref11_Around.l0] at h, fun _ _ _ _ _ _ _ r h => by simp [tangramref11_Around.l1] at h⟩
  | k + 1 => by
    obtain ⟨ih0, ih1⟩ := tangramref11_Around.mono_l k
    refine ⟨?_, ?_⟩
    · intro y0 y1 y2 y3 y4
      unfold tangramref11_Around.l0
      repeat' first
      | (with_reducible exact ih0 _ _ _ _ _)
      | (with_reducible exact ih1 _ _ _ _ _ _ _)
      | (with_reducible exact tangramref11_Check.mono _ _ _ _)
      | (with_reducible exact LeO.refl _)
      | (with_reducible exact LeO.none _)
      | (with_reducible refine LeO.ite ?_ ?_)
      | (with_reducible refine LeO.bind ?_ (fun _ => ?_))
      | exact ih0 _ _ _ _ _
      | exact ih1 _ _ _ _ _ _ _
      | exact tangramref11_Check.mono _ _ _ _
      | exact LeO.none _
      | refine LeO.ite ?_ ?_
      | refine LeO.bind ?_ (fun _ => ?_)
    · intro y0 y1 y2 y3 y4 y5 y6
      unfold tangramref11_Around.l1
      repeat' first
      | (with_reducible exact ih0 _ _ _ _ _)
      | (with_reducible exact ih1 _ _ _ _ _ _ _)
      | (with_reducible exact tangramref11_Check.mono _ _ _ _)
      | (with_reducible exact LeO.refl _)
      | (with_reducible exact LeO.none _)
      | (with_reducible refine LeO.ite ?_ ?_)
      | (with_reducible refine LeO.bind ?_ (fun _ => ?_))
      | exact ih0 _ _ _ _ _
      | exact ih1 _ _ _ _ _ _ _
      | exact tangramref11_Check.mono _ _ _ _
      | exact LeO.none _
      | refine LeO.ite ?_ ?_
      | refine LeO.bind ?_ (fun _ => ?_)
theorem tangramref11_Around.mono : ∀ a0 a1 a2 k, LeO (tangramref11_Around.f k a0 a1 a2) (tangramref11_Around.f (k + 1) a0 a1 a2) := by
  intro a0 a1 a2 k
  obtain ⟨ih0, ih1⟩ := tangramref11_Around.mono_l k
  unfold tangramref11_Around.f
  repeat' first
      | (with_reducible exact ih0 _ _ _ _ _)
      | (with_reducible exact ih1 _ _ _ _ _ _ _)
      | (with_reducible exact tangramref11_Check.mono _ _ _ _)
      | (with_reducible exact LeO.refl _)
      | (with_reducible exact LeO.none _)
      | (with_reducible refine LeO.ite ?_ ?_)
      | (with_reducible refine LeO.bind ?_ (fun _ => ?_))
      | exact ih0 _ _ _ _ _
      | exact ih1 _ _ _ _ _ _ _
      | exact tangramref11_Check.mono _ _ _ _
      | exact LeO.none _
      | refine LeO.ite ?_ ?_
      | refine LeO.bind ?_ (fun _ => ?_)
def tangramref11_Around.T12 : Bool × List (List Nat × List Nat) := (true, [([], []), ([], []), ([], []), ([], []), ([2, 3], [2, 3]), ([4], [4]), ([], []), ([5, 6], [5, 6]), ([7], [7]), ([1, 8], [1, 8]), ([9], [9]), ([0, 10, 9], [0, 10]), ([11, 11, 0, 1, 2, 3, 4, 5, 6, 7, 8, 9, 10, 11], [0, 11])])
def tangramref11_Around.B12 : List Nat := [0, 0, 0, 0, 12, 28, 0, 124, 252, 510, 1022, 2047, 4095]
theorem tangramref11_Around.tab12 : rtab .any (opsOf Try.f19 12) = tangramref11_Around.T12 := by kernel_rfl
theorem tangramref11_Around.bits12 : waitsOk tangramref11_Around.T12.2 tangramref11_Around.B12 = true := by kernel_rfl
set_option maxHeartbeats 8000000 in
set_option maxRecDepth 100000 in
theorem tangramref11_Around.calls (k : Nat) (a0_0 : Int) (A0_1 : Option Addr) (c0_1 : Nat) (l0_1 : List (S59)) (A1 : Option Addr) (c1 : Nat) (l1 : List (List Int)) (r1 : List (List Int)) (r2 : Int) (w : World) (hr0_1 : Kd.C k59 w A0_1 l0_1.length l0_1) (hc0_1 : l0_1.length ≤ c0_1) (hr1 : Kd.C (Kd.slice 3 (Kd.int .i64)) w A1 l1.length l1) (hc1 : l1.length ≤ c1) (h : tangramref11_Around.f k a0_0 l0_1 l1 = some (r1, r2)) :
    Calls Try.prog 19 #[.agg #[.int .i64 a0_0, .slice A0_1 l0_1.length c0_1], .slice A1 l1.length c1] w fun e w' => ∃ v0_ : Value, e = .returned (.tuple #[v0_, .int .i64 r2]) ∧ Kd.S (Kd.slice 3 (Kd.int .i64)) 28 w' w.heap.size (fun _ => True) v0_ r1 ∧ Below w.heap.size w w' := by
  have hu24 := Try.underlying24
  have HR0_1 := Aside0.mk hr0_1
  have HC0_1 := Aside0.mk hc0_1
  clear hr0_1 hc0_1
  have HR1 := Aside0.mk hr1
  have HC1 := Aside0.mk hc1
  clear hr1 hc1
  have HB := Aside0.mk (Below.refl w.heap.size w)
  have H : ((tangramref11_Check.f k a0_0 l0_1 l1).bind fun bt211 => (if bt211.2 = 0 then (tangramref11_Around.l0 k l1 ([] : List (List Int)) 0 a0_0 l0_1) else (some (([] : List (List Int)), bt211.2)))) = some (r1, r2) := h
  clear h
  replace H := Option.bind_eq_some_iff.mp H
  obtain ⟨⟨t211, t212⟩, A30, H⟩ := H
  replace H : (if t212 = 0 then (tangramref11_Around.l0 k l1 ([] : List (List Int)) 0 a0_0 l0_1) else (some (([] : List (List Int)), t212))) = some (r1, r2) := H
  have A3 := Aside0.mk A30
  clear A30
  by_cases c4 : t212 = 0
  · rw [if_pos c4] at H
    have c4b0 : (t212 == 0) = true := beq_iff_eq.mpr c4
    have c4b1 : (t212 != 0) = false := bne_eq_false_iff_eq.mpr c4
    clear c4
    have H' := Aside0.mk H
    clear H
    go_enter Try.func19, Try.ntmps19
    go_wp2_with (first | ((with_reducible refine gate_dst (N := 2) rfl ?_); refine box_event ?hg (N := 2) ?hd (cs := #[.int .i64 a0_0, .slice A0_1 l0_1.length c0_1]) (t := 24) ?hr ?_; (case hd => rfl); (case hg => rfl); (case hr => first | (go_simp; done) | (go_simp; rfl)); intro gb210 hg w5 hbox hb; have n0_ := Aside0.mk (below_step (by repeat (first | (with_reducible first | exact HB.out | apply below_alloc | apply pw_below_drewN | apply below_drew1) | exact HB.out)) hb); have n1_ := Aside0.mk (hbox); have n2_ := Aside0.mk ((by rw [hg]; exact (below_size (by repeat (first | (with_reducible first | exact HB.out | apply below_alloc | apply pw_below_drewN | apply below_drew1) | exact HB.out))) : w.heap.size ≤ gb210)); have n3_ := Aside0.mk ((by rw [hg]; exact (below_size (by repeat (first | (with_reducible first | exact HB.out | apply below_alloc | apply pw_below_drewN | apply below_drew1) | exact HB.out))) : w.heap.size ≤ gb210)); clear HB; have HB := n0_; have BK210 := n1_; have GW210 := n2_; have GE210 := n3_; clear n0_ n1_ n2_ n3_; clear hb hbox hg; have hcz6_0 : w5.cell? ⟨gb210, 0, none⟩ = some (.int .i64 a0_0) := (blk_cell BK210.out 0).trans rfl; have hcz6_1 : w5.cell? ⟨gb210, 1, none⟩ = some (.slice A0_1 l0_1.length c0_1) := (blk_cell BK210.out 1).trans rfl; have hfz6_0 := blk_frozen BK210.out 0; have hfz6_1 := blk_frozen BK210.out 1) | ((with_reducible refine gate_callee (f := 16) rfl ?_); refine goesL_ (some 15) rfl rfl Try.func16 (by kernel_rfl) rfl #[.agg #[.int .i64 a0_0, .slice A0_1 l0_1.length c0_1], .slice A1 l1.length c1] rfl (by (try simp only [List.map_toArray, List.map_cons, List.map_nil]); first | done | rfl | (simp only [List.length_drop, List.length_take]; rfl)) ?_; (with_reducible refine (tangramref11_Check.calls k a0_0 _ _ l0_1 _ _ l1 t211 t212 _ ?side1 ?side2 ?side3 ?side4 A3.out).mono ?_); (case side1 => repeat (first | exact (Kd.C_below HR0_1.out HB.out) | (with_reducible refine Kd.C_alloc ?_ _) | (with_reducible refine Kd.C_drewN ?_ _) | (with_reducible refine Kd.C_drew ?_))); (case side2 => exact HC0_1.out); (case side3 => repeat (first | exact (Kd.C_below HR1.out HB.out) | (with_reducible refine Kd.C_alloc ?_ _) | (with_reducible refine Kd.C_drewN ?_ _) | (with_reducible refine Kd.C_drew ?_))); (case side4 => exact HC1.out); rintro e w7 ⟨rfl, hb⟩; refine ⟨_, rfl, ?_⟩; have n0_ := Aside0.mk (blk_below (g := gb210) (o := .cells #[.int .i64 a0_0, .slice A0_1 l0_1.length c0_1] 24 (0, 0)) (by (with_reducible repeat (first | refine blk_drewN ?_ _ | refine blk_drew ?_ | refine blk_alloc ?_ _)); exact BK210.out) hb); have n1_ := Aside0.mk (below_step (by repeat (first | (with_reducible first | exact HB.out | apply below_alloc | apply pw_below_drewN | apply below_drew1 | refine below_set ?_ GE210.out) | exact HB.out)) hb); clear BK210; clear HB; have BK210 := n0_; have HB := n1_; clear n0_ n1_; (try clear hb); (try clear hb2); (try clear hk); (try clear hi)))
    go_loopg [8, 9] k (fun kq v8 v9 w' => ∃ (x8_1 : List (List Int)) (x9_1 : Int), v9 = .int .i64 x9_1 ∧ Aside0 (tangramref11_Around.l0 kq l1 x8_1 x9_1 a0_0 l0_1 = some (r1, r2)) ∧ Aside0 (kq ≤ k) ∧ Aside0 (Kd.S (Kd.slice 3 (Kd.int .i64)) 28 w' w.heap.size (fun _ => True) v8 x8_1) ∧ Aside0 (w'.heap[gb210]? = some (.cells #[.int .i64 a0_0, (.slice A0_1 l0_1.length c0_1)] 24 (0, 0))) ∧ Aside0 (Below w.heap.size w w'))
    case atStart => exact ⟨(([] : List (List Int))), (0), (by first | rfl | (simp; done) | (simp [*]; done)), H', ⟨Nat.le_refl _⟩, ⟨by first | exact Kd.S_nil _ _ _ _ _ | exact Kd.N_nil _ _ _ _ _ | exact Kd.V_nil _ _ _ _ _ | exact Kd.Q_nil _ _ _ _ _ | exact Kd.R_nil _ _ _ _ _⟩, ⟨by (with_reducible repeat (first | refine blk_drewN ?_ _ | refine blk_drew ?_ | refine blk_alloc ?_ _)); exact BK210.out⟩, ⟨by repeat (first | (with_reducible first | exact HB.out | apply below_alloc | apply pw_below_drewN | apply below_drew1 | refine below_set ?_ GE210.out) | exact HB.out)⟩⟩
    case round =>
      clear H'
      try clear c1
      try clear p2
      try clear c4
      try clear c4b0
      try clear c4b1
      try clear hcz6_0
      try clear hcz6_1
      try clear hfz6_0
      try clear hfz6_1
      obtain ⟨x8_1, x9_1, rfl, HA, HK1, HO_8, BK210, HB⟩ := hrel
      cases gk with
      | zero => exact absurd HA.out (by simp [tangramref11_Around.l0])
      | succ k1 =>
        have H := HA.out
        clear HA
        simp only [tangramref11_Around.l0] at H
        by_cases c8 : x9_1 < (l1.length : Int)
        · rw [if_pos c8] at H
          have c8b0 : decide (x9_1 < (l1.length : Int)) = true := decide_eq_true c8
          clear c8
          have H' := Aside0.mk H
          clear H
          go_wp2
          go_loopg [10, 11] k1 (fun kq v10 v11 w' => ∃ (x10_2 : List Int) (x11_2 : Int), v11 = .int .i64 x11_2 ∧ Aside0 (tangramref11_Around.l1 kq l1 x8_1 x9_1 x10_2 x11_2 a0_0 l0_1 = some (r1, r2)) ∧ Aside0 (kq ≤ k1) ∧ Aside0 (Kd.S (Kd.slice 3 (Kd.int .i64)) 28 w' w.heap.size (fun k_ => some k_ ≠ (v10 : Value).ownBlock) u8 x8_1) ∧ Aside0 (Kd.R (Kd.int .i64) 3 w' w.heap.size (fun _ => True) v10 x10_2) ∧ Aside0 (w'.heap[gb210]? = some (.cells #[.int .i64 a0_0, (.slice A0_1 l0_1.length c0_1)] 24 (0, 0))) ∧ Aside0 (Below w.heap.size w w'))
          case atStart => exact ⟨(([] : List Int)), (0), (by first | rfl | (simp; done) | (simp [*]; done)), H', ⟨Nat.le_refl _⟩, ⟨by (with_reducible repeat (first | apply Kd.S_alloc | apply Kd.S_drewN | apply Kd.S_drew)); exact Kd.S_mono HO_8.out (fun _ hk => (by simp [Value.ownBlock]))⟩, ⟨by first | exact Kd.R_nil _ _ _ _ _ | exact Kd.N_nil _ _ _ _ _ | exact Kd.V_nil _ _ _ _ _ | exact Kd.Q_nil _ _ _ _ _ | exact Kd.S_nil _ _ _ _ _⟩, ⟨by (with_reducible repeat (first | refine blk_drewN ?_ _ | refine blk_drew ?_ | refine blk_alloc ?_ _)); exact BK210.out⟩, ⟨by repeat (first | (with_reducible first | exact HB.out | apply below_alloc | apply pw_below_drewN | apply below_drew1 | refine below_set ?_ GE210.out) | exact HB.out)⟩⟩
          case round =>
            clear H'
            try clear c1
            try clear p2
            try clear c4
            try clear c4b0
            try clear c4b1
            try clear c8
            try clear c8b0
            try clear hcz6_0
            try clear hcz6_1
            try clear hfz6_0
            try clear hfz6_1
            try clear p2
            obtain ⟨x10_2, x11_2, rfl, HA, HK2, HO_8, HO_10, BK210, HB⟩ := hrel
            cases gk with
            | zero => exact absurd HA.out (by simp [tangramref11_Around.l1])
            | succ k2 =>
              have H := HA.out
              clear HA
              simp only [tangramref11_Around.l1] at H
              by_cases c9 : 0 ≤ x9_1
              · rw [if_pos c9] at H
                have c9b0 : decide (0 ≤ x9_1) = true := decide_eq_true c9
                clear c9
                by_cases c10 : x9_1 < (l1.length : Int)
                · rw [if_pos c10] at H
                  have c10b0 : decide (x9_1 < (l1.length : Int)) = true := decide_eq_true c10
                  clear c10
                  by_cases c11 : x11_2 < ((rd_L4 l1 x9_1).length : Int)
                  · rw [if_pos c11] at H
                    have c11b0 : decide (x11_2 < ((rd_L4 l1 x9_1).length : Int)) = true := decide_eq_true c11
                    clear c11
                    by_cases c12 : 0 ≤ x11_2
                    · rw [if_pos c12] at H
                      have c12b0 : decide (0 ≤ x11_2) = true := decide_eq_true c12
                      clear c12
                      replace H := Option.bind_eq_some_iff.mp H
                      obtain ⟨t216, A130, H⟩ := H
                      replace H : (if x10_2.length < 17592186044416 then (tangramref11_Around.l1 k2 l1 x8_1 x9_1 (x10_2 ++ [t216]) (wrap64 (x11_2 + 1)) a0_0 l0_1) else (none)) = some (r1, r2) := H
                      have A13 := Aside0.mk A130
                      clear A130
                      by_cases c14 : x10_2.length < 17592186044416
                      · rw [if_pos c14] at H
                        have LMc14 := Aside0.mk c14
                        clear c14
                        obtain ⟨y217, hy217⟩ : ∃ y_ : List Int, y_ = (x10_2 ++ [t216]) := ⟨_, rfl⟩
                        replace H : (tangramref11_Around.l1 k2 l1 x8_1 x9_1 y217 (wrap64 (x11_2 + 1)) a0_0 l0_1) = some (r1, r2) := by first | (rw [hy217]; with_reducible exact H) | (have H2_ := (Option.bind_some _ _).symm.trans H; rw [hy217]; with_reducible exact H2_) | (have H2_ := (Option.bind_some _ _).symm.trans H; with_reducible exact H2_) | with_reducible exact H | (rw [hy217]; exact H) | exact H
                        have Ny217 := Aside0.mk hy217
                        clear hy217
                        have H' := Aside0.mk H
                        clear H
                        have p213 : 0 ≤ (x9_1 : Int) := of_decide_eq_true (by first | (with_reducible assumption) | assumption)
                        have q213 : x9_1 < (l1.length : Int) := of_decide_eq_true (by first | (with_reducible assumption) | assumption)
                        obtain ⟨ad213, A213_0, c213_0, e213, hx213_0, hl213_0, hi213_0⟩ := at_L4 HR1.out x9_1 p213 q213
                        cases e213
                        replace hx213_0 := (HB.out.cell (World.block_lt_of_cell? w _ hx213_0)).trans hx213_0
                        have HR213_0 := Aside0.mk hi213_0
                        have HC213_0 := Aside0.mk hl213_0
                        clear hi213_0 hl213_0
                        replace p213 := eq_true p213
                        replace q213 := eq_true q213
                        try go_wp2
                        have n0_ := Aside0.mk (Kd.S_drew HO_8.out)
                        have n1_ := Aside0.mk (Kd.R_drew HO_10.out)
                        have n2_ := Aside0.mk (blk_drew BK210.out)
                        have n3_ := Aside0.mk (below_drew1 HB.out)
                        clear HO_8
                        clear HO_10
                        clear BK210
                        clear HB
                        have HO_8 := n0_
                        have HO_10 := n1_
                        have BK210 := n2_
                        have HB := n3_
                        clear n0_ n1_ n2_ n3_
                        have p214 : 0 ≤ (x9_1 : Int) := of_decide_eq_true (by first | (with_reducible assumption) | assumption)
                        have q214 : x9_1 < (l1.length : Int) := of_decide_eq_true (by first | (with_reducible assumption) | assumption)
                        obtain ⟨ad214, A214_0, c214_0, e214, hx214_0, hl214_0, hi214_0⟩ := at_L4 HR1.out x9_1 p214 q214
                        have hw214_0 := hx214_0
                        obtain rfl : ad213 = ad214 := (by injection e214)
                        replace hx214_0 := (HB.out.cell (World.block_lt_of_cell? w _ hx214_0)).trans hx214_0
                        have HR214_0 := Aside0.mk hi214_0
                        have HC214_0 := Aside0.mk hl214_0
                        clear hi214_0 hl214_0
                        replace p214 := eq_true p214
                        replace q214 := eq_true q214
                        have p215 : 0 ≤ (x11_2 : Int) := of_decide_eq_true (by first | (with_reducible assumption) | assumption)
                        have q215 : x11_2 < ((rd_L4 l1 x9_1).length : Int) := of_decide_eq_true (by first | (with_reducible assumption) | assumption)
                        obtain ⟨ad215, e215, hx215_0⟩ := Kd.at_int HR214_0.out x11_2 p215 q215
                        have hw215_0 := hx215_0
                        cases e215
                        replace hx215_0 := (HB.out.cell (World.block_lt_of_cell? w _ hx215_0)).trans hx215_0
                        replace p215 := eq_true p215
                        replace q215 := eq_true q215
                        refine start_ (n := 13) (S := fun w' => w'.cell? ⟨gb210, 0, none⟩ = some (.int .i64 a0_0) ∧ w'.cell? ⟨gb210, 1, none⟩ = some (.slice A0_1 l0_1.length c0_1) ∧ w'.cell? (ad213.add (x9_1).toNat) = some (.slice (some ad215) (rd_L4 l1 x9_1).length c214_0) ∧ w'.cell? (ad215.add (x11_2).toNat) = some (.int .i64 (rd (rd_L4 l1 x9_1) x11_2))) (ds := []) #[false, false, false, false, false, false, false, false, false, false, false, false, false] (by kernel_rfl) rfl rfl ⟨(blk_cell BK210.out 0).trans rfl, (blk_cell BK210.out 1).trans rfl, ((HB.out.cell (World.block_lt_of_cell? w _ hw214_0)).trans hw214_0), ((HB.out.cell (World.block_lt_of_cell? w _ hw215_0)).trans hw215_0)⟩ (fun hHeld => ?_); refine with_tabW tangramref11_Around.tab12 tangramref11_Around.bits12 (fun HT_ HW_ => ?_)
                        generalize wr.drew = w15 at HO_8 HO_10 BK210 HB HR214_0 hx214_0 hx215_0 hHeld ⊢
                        refine pure_ (i := 0) (N := some 36) (v := ?_) (a' := ?_) #[true, false, false, false, false, false, false, false, false, false, false, false, false] rfl rfl (any_of HT_.out (by kernel_rfl)) (fun _ _ _ h => h) (Or.inl ⟨by rfl, ?_⟩) ?_ ?_
                        rotate_left
                        · intro w'
                          go_simp
                          with_reducible rfl
                        rotate_left
                        · simp only [Act.put, List.setIfInBounds_toArray, List.set_cons_zero, List.set_cons_succ, i64_w, i32_w]
                          rfl
                        refine pure_ (i := 2) (N := some 38) (v := ?_) (a' := ?_) #[true, false, true, false, false, false, false, false, false, false, false, false, false] rfl rfl (any_of HT_.out (by kernel_rfl)) (fun _ _ _ h => h) (Or.inl ⟨by rfl, ?_⟩) ?_ ?_
                        rotate_left
                        · intro w'
                          go_simp
                          with_reducible rfl
                        rotate_left
                        · simp only [Act.put, List.setIfInBounds_toArray, List.set_cons_zero, List.set_cons_succ, i64_w, i32_w]
                          rfl
                        refine pure_ (i := 3) (N := some 39) (v := ?_) (a' := ?_) #[true, false, true, true, false, false, false, false, false, false, false, false, false] rfl rfl (any_of HT_.out (by kernel_rfl)) (fun _ _ _ h => h) (Or.inl ⟨by rfl, ?_⟩) ?_ ?_
                        rotate_left
                        · intro w'
                          go_simp
                          with_reducible rfl
                        rotate_left
                        · simp only [Act.put, List.setIfInBounds_toArray, List.set_cons_zero, List.set_cons_succ, i64_w, i32_w]
                          rfl
                        refine pure_ (i := 4) (N := some 40) (v := ?_) (a' := ?_) #[true, false, true, true, true, false, false, false, false, false, false, false, false] rfl rfl (any_of HT_.out (by kernel_rfl)) (fun _ _ _ h => h) (Or.inl ⟨by rfl, ?_⟩) ?_ ?_
                        rotate_left
                        · intro w'
                          go_simp
                          with_reducible rfl
                        rotate_left
                        · simp only [Act.put, List.setIfInBounds_toArray, List.set_cons_zero, List.set_cons_succ, i64_w, i32_w]
                          rfl
                        refine pure_ (i := 6) (N := some 42) (v := ?_) (a' := ?_) #[true, false, true, true, true, false, true, false, false, false, false, false, false] rfl rfl (any_of HT_.out (by kernel_rfl)) (fun _ _ _ h => h) (Or.inl ⟨by rfl, ?_⟩) ?_ ?_
                        rotate_left
                        · intro w'
                          go_simp
                          with_reducible rfl
                        rotate_left
                        · simp only [Act.put, List.setIfInBounds_toArray, List.set_cons_zero, List.set_cons_succ, i64_w, i32_w]
                          rfl
                        refine take_ (i := 1) (N := some 37) (v := ?_) (a' := ?_) #[true, true, true, true, true, false, true, false, false, false, false, false, false] rfl rfl (take_ofW HT_.out HW_.out (by kernel_rfl)) (fun _ _ _ h => h) (Or.inl ⟨by rfl, ?_⟩) hHeld ?_ ?_
                        rotate_left
                        · rintro w' ⟨s0, s1, s2, s3⟩
                          go_simp
                          with_reducible rfl
                        rotate_left
                        · simp only [Act.put, List.setIfInBounds_toArray, List.set_cons_zero, List.set_cons_succ, i64_w, i32_w]
                          rfl
                        refine take_ (i := 5) (N := some 41) (v := ?_) (a' := ?_) #[true, true, true, true, true, true, true, false, false, false, false, false, false] rfl rfl (take_ofW HT_.out HW_.out (by kernel_rfl)) (fun _ _ _ h => h) (Or.inl ⟨by rfl, ?_⟩) hHeld ?_ ?_
                        rotate_left
                        · rintro w' ⟨s0, s1, s2, s3⟩
                          go_simp
                          with_reducible rfl
                        rotate_left
                        · simp only [Act.put, List.setIfInBounds_toArray, List.set_cons_zero, List.set_cons_succ, i64_w, i32_w]
                          rfl
                        refine pure_ (i := 7) (N := some 43) (v := ?_) (a' := ?_) #[true, true, true, true, true, true, true, true, false, false, false, false, false] rfl rfl (any_of HT_.out (by kernel_rfl)) (fun _ _ _ h => h) (Or.inl ⟨by rfl, ?_⟩) ?_ ?_
                        rotate_left
                        · intro w'
                          go_simp
                          with_reducible rfl
                        rotate_left
                        · simp only [Act.put, List.setIfInBounds_toArray, List.set_cons_zero, List.set_cons_succ, i64_w, i32_w]
                          rfl
                        refine take_ (i := 8) (N := some 44) (v := ?_) (a' := ?_) #[true, true, true, true, true, true, true, true, true, false, false, false, false] rfl rfl (take_ofW HT_.out HW_.out (by kernel_rfl)) (fun _ _ _ h => h) (Or.inl ⟨by rfl, ?_⟩) hHeld ?_ ?_
                        rotate_left
                        · rintro w' ⟨s0, s1, s2, s3⟩
                          go_simp
                          with_reducible rfl
                        rotate_left
                        · simp only [Act.put, List.setIfInBounds_toArray, List.set_cons_zero, List.set_cons_succ, i64_w, i32_w]
                          rfl
                        refine one_ (i := 9) (N := some 45) #[true, true, true, true, true, true, true, true, true, true, false, false, false] rfl rfl (one_of HT_.out (by kernel_rfl)) (by decide) (fun K hK => ?_)
                        refine goes_ Try.func41 (by kernel_rfl) rfl #[.agg #[.int .i64 a0_0, .slice A0_1 l0_1.length c0_1], .int .i64 (rd (rd_L4 l1 x9_1) x11_2)] (by rfl) rfl rfl (by (try simp only [List.map_toArray, List.map_cons, List.map_nil]); first | done | rfl | (simp only [List.length_drop, List.length_take]; rfl)) ?_
                        with_reducible refine (tangramref11_To.calls a0_0 _ _ l0_1 (rd (rd_L4 l1 x9_1) x11_2) t216 _ ?side1 ?side2 A13.out).mono ?_
                        (case side1 => repeat (first | exact (Kd.C_below HR0_1.out HB.out) | (with_reducible refine Kd.C_alloc ?_ _) | (with_reducible refine Kd.C_drewN ?_ _) | (with_reducible refine Kd.C_drew ?_)))
                        (case side2 => exact HC0_1.out)
                        rintro e w16 ⟨rfl, hb⟩
                        refine ⟨_, rfl, ?_⟩
                        have n0_ := Aside0.mk (Kd.S_below (by (with_reducible repeat (first | apply Kd.S_alloc | apply Kd.S_drewN | apply Kd.S_drew)); exact HO_8.out) hb)
                        have n1_ := Aside0.mk (Kd.R_below (by (with_reducible repeat (first | apply Kd.R_alloc | apply Kd.R_drewN | apply Kd.R_drew)); exact HO_10.out) hb)
                        have n2_ := Aside0.mk (blk_below (g := gb210) (o := .cells #[.int .i64 a0_0, .slice A0_1 l0_1.length c0_1] 24 (0, 0)) (by (with_reducible repeat (first | refine blk_drewN ?_ _ | refine blk_drew ?_ | refine blk_alloc ?_ _)); exact BK210.out) hb)
                        have n3_ := Aside0.mk (below_step (by repeat (first | (with_reducible first | exact HB.out | apply below_alloc | apply pw_below_drewN | apply below_drew1 | refine below_set ?_ GE210.out) | exact HB.out)) hb)
                        clear HO_8
                        clear HO_10
                        clear BK210
                        clear HB
                        have HO_8 := n0_
                        have HO_10 := n1_
                        have BK210 := n2_
                        have HB := n3_
                        clear n0_ n1_ n2_ n3_
                        (try clear hb)
                        (try clear hb2)
                        (try clear hk)
                        (try clear hi)
                        refine hK.out _ _ ⟨(blk_cell BK210.out 0).trans rfl, (blk_cell BK210.out 1).trans rfl, ((HB.out.cell (World.block_lt_of_cell? w _ hw214_0)).trans hw214_0), ((HB.out.cell (World.block_lt_of_cell? w _ hw215_0)).trans hw215_0)⟩ (fun hHeld => ?_)
                        clear hK K
                        refine norm_ (a' := ?_) ?_ ?_
                        rotate_left
                        · show Act.put _ (some 45) _ = _
                          simp only [Act.put, List.setIfInBounds_toArray, List.set_cons_zero, List.set_cons_succ, i64_w, i32_w]
                          rfl
                        refine one_ (i := 10) (N := some 46) #[true, true, true, true, true, true, true, true, true, true, true, false, false] rfl rfl (one_of HT_.out (by kernel_rfl)) (by decide) (fun K hK => ?_)
                        refine value_ (w1 := ?_) (v := ?_) (by rfl) rfl ?_ ?_
                        rotate_left 2
                        · go_simp
                          constructor
                          · rfl
                          · rfl
                        refine hK.out _ _ ⟨(blk_cell (blk_alloc BK210.out _) 0).trans rfl, (blk_cell (blk_alloc BK210.out _) 1).trans rfl, (World.cell?_alloc_lt _ _ _ (World.block_lt_of_cell? _ _ (((HB.out.cell (World.block_lt_of_cell? w _ hw214_0)).trans hw214_0)))).trans (((HB.out.cell (World.block_lt_of_cell? w _ hw214_0)).trans hw214_0)), (World.cell?_alloc_lt _ _ _ (World.block_lt_of_cell? _ _ (((HB.out.cell (World.block_lt_of_cell? w _ hw215_0)).trans hw215_0)))).trans (((HB.out.cell (World.block_lt_of_cell? w _ hw215_0)).trans hw215_0))⟩ (fun hHeld => ?_)
                        clear hK K
                        refine norm_ (a' := ?_) ?_ ?_
                        rotate_left
                        · show Act.put _ (some 46) _ = _
                          simp only [Act.put, List.setIfInBounds_toArray, List.set_cons_zero, List.set_cons_succ, i64_w, i32_w]
                          rfl
                        refine one_ (i := 11) (N := some 47) #[true, true, true, true, true, true, true, true, true, true, true, true, false] rfl rfl (one_of HT_.out (by kernel_rfl)) (by decide) (fun K hK => ?_)
                        refine Kd.R_append_step (Kd.int .i64) (w0 := w) w.heap.size (by rfl) (.tmp 36) (.tmp 46) 28 3 (.int .i64 0) 8 rfl Try.underlying28 info3 rfl (by decide) (by omega) u10 x10_2 t216 [.int .i64 t216] (fun _ => True) (fun _ => False) rfl rfl ?aP (fun _ hk => hk.elim) ?aF ?aO ?aB ?aS ?aL ?_
                        (case aP => exact rfl)
                        (case aB => exact (by repeat (first | (with_reducible first | exact HB.out | apply below_alloc | apply pw_below_drewN | apply below_drew1 | refine below_set ?_ GE210.out) | exact HB.out)))
                        (case aF => exact (fun _ _ => trivial))
                        (case aO => exact (by (with_reducible repeat (first | apply Kd.R_alloc | apply Kd.R_drewN | apply Kd.R_drew)); exact HO_10.out))
                        (case aS => exact (below_size (by repeat (first | (with_reducible first | exact HB.out | apply below_alloc | apply pw_below_drewN | apply below_drew1 | refine below_set ?_ GE210.out) | exact HB.out))))
                        (case aL => have := LMc14.out; omega)
                        intro v218 w17 ho hb hg hat
                        rw [← Ny217.out] at ho
                        have n0_ := Aside0.mk (Kd.S_after (ok := (fun _ => True)) (by (with_reducible repeat (first | apply Kd.S_alloc | apply Kd.S_drewN | apply Kd.S_drew)); exact Kd.S_mono HO_8.out (fun _ hk => ⟨trivial, hk⟩)) hg hat)
                        have n1_ := Aside0.mk (blk_grown (g := gb210) (o := .cells #[.int .i64 a0_0, .slice A0_1 l0_1.length c0_1] 24 (0, 0)) (by (with_reducible repeat (first | refine blk_drewN ?_ _ | refine blk_drew ?_ | refine blk_alloc ?_ _)); exact BK210.out) hg (Kd.R_ne HO_10.out BK210.out (by decide)))
                        have n2_ := Aside0.mk (hb)
                        have n3_ := Aside0.mk (ho)
                        clear HO_8
                        clear BK210
                        clear HB
                        clear HO_10
                        have HO_8 := n0_
                        have BK210 := n1_
                        have HB := n2_
                        have HO219 := n3_
                        clear n0_ n1_ n2_ n3_
                        clear ho hb hg hat
                        refine hK.out _ _ ⟨(blk_cell BK210.out 0).trans rfl, (blk_cell BK210.out 1).trans rfl, ((HB.out.cell (World.block_lt_of_cell? w _ hw214_0)).trans hw214_0), ((HB.out.cell (World.block_lt_of_cell? w _ hw215_0)).trans hw215_0)⟩ (fun hHeld => ?_)
                        clear hK K
                        refine norm_ (a' := ?_) ?_ ?_
                        rotate_left
                        · show Act.put _ (some 47) _ = _
                          simp only [Act.put, List.setIfInBounds_toArray, List.set_cons_zero, List.set_cons_succ, i64_w, i32_w]
                          rfl
                        refine pure_ (i := 12) (N := some 10) (v := ?_) (a' := ?_) #[true, true, true, true, true, true, true, true, true, true, true, true, true] rfl rfl (any_of HT_.out (by kernel_rfl)) (fun _ _ _ h => h) (Or.inl ⟨by rfl, ?_⟩) ?_ ?_
                        rotate_left
                        · intro w'
                          go_simp
                          with_reducible rfl
                        rotate_left
                        · simp only [Act.put, List.setIfInBounds_toArray, List.set_cons_zero, List.set_cons_succ, i64_w, i32_w]
                          rfl
                        refine done_ (done_of HT_.out (by kernel_rfl)) ?_
                        try go_wp2
                        go_roundg k2
                        case measure => have := HK1.out; have := HK2.out; omega
                        case rel => exact ⟨(y217), (wrap64 (x11_2 + 1)), (by first | rfl | (simp; done) | (simp [*]; done)), H', ⟨by have := HK1.out; have := HK2.out; omega⟩, ⟨by (with_reducible repeat (first | apply Kd.S_alloc | apply Kd.S_drewN | apply Kd.S_drew)); exact Kd.S_mono HO_8.out (fun _ hk => hk.2)⟩, ⟨by (with_reducible repeat (first | apply Kd.R_alloc | apply Kd.R_drewN | apply Kd.R_drew)); exact HO219.out⟩, ⟨by (with_reducible repeat (first | refine blk_drewN ?_ _ | refine blk_drew ?_ | refine blk_alloc ?_ _)); exact BK210.out⟩, ⟨by repeat (first | (with_reducible first | exact HB.out | apply below_alloc | apply pw_below_drewN | apply below_drew1 | refine below_set ?_ GE210.out) | exact HB.out)⟩⟩
                      · rw [if_neg c14] at H
                        exact absurd H (by simp)
                    · rw [if_neg c12] at H
                      exact absurd H (by simp)
                  · rw [if_neg c11] at H
                    have c11b0 : decide (x11_2 < ((rd_L4 l1 x9_1).length : Int)) = false := decide_eq_false c11
                    clear c11
                    by_cases c18 : x8_1.length < 5864062014805
                    · rw [if_pos c18] at H
                      have LMc18 := Aside0.mk c18
                      clear c18
                      obtain ⟨y220, hy220⟩ : ∃ y_ : List (List Int), y_ = (x8_1 ++ [x10_2]) := ⟨_, rfl⟩
                      replace H : (tangramref11_Around.l0 k2 l1 y220 (wrap64 (x9_1 + 1)) a0_0 l0_1) = some (r1, r2) := by first | (rw [hy220]; with_reducible exact H) | (have H2_ := (Option.bind_some _ _).symm.trans H; rw [hy220]; with_reducible exact H2_) | (have H2_ := (Option.bind_some _ _).symm.trans H; with_reducible exact H2_) | with_reducible exact H | (rw [hy220]; exact H) | exact H
                      have Ny220 := Aside0.mk hy220
                      clear hy220
                      have H' := Aside0.mk H
                      clear H
                      have p213 : 0 ≤ (x9_1 : Int) := of_decide_eq_true (by first | (with_reducible assumption) | assumption)
                      have q213 : x9_1 < (l1.length : Int) := of_decide_eq_true (by first | (with_reducible assumption) | assumption)
                      obtain ⟨ad213, A213_0, c213_0, e213, hx213_0, hl213_0, hi213_0⟩ := at_L4 HR1.out x9_1 p213 q213
                      cases e213
                      replace hx213_0 := (HB.out.cell (World.block_lt_of_cell? w _ hx213_0)).trans hx213_0
                      have HR213_0 := Aside0.mk hi213_0
                      have HC213_0 := Aside0.mk hl213_0
                      clear hi213_0 hl213_0
                      replace p213 := eq_true p213
                      replace q213 := eq_true q213
                      obtain ⟨Ao20, co20, eo20⟩ := Kd.R_slice HO_10.out
                      subst eo20
                      go_wp2_with (first | ((with_reducible refine gate_builtin (b := .append) (xs := #[.tmp 48, .tmp 50]) rfl ?_); at_builtin; refine Kd.S_append (Kd.slice 3 (Kd.int .i64)) (w0 := w) w.heap.size rfl (.tmp 48) (.tmp 50) 25 28 (.slice none 0 0) 24 rfl Try.underlying25 info28 rfl (by decide) (by omega) u8 x8_1 x10_2 [.slice Ao20 x10_2.length co20] (fun _ => True) (fun k_ => some k_ = (.slice Ao20 x10_2.length co20 : Value).ownBlock) rfl rfl ?aP (fun k_ hk_ => ((Kd.R_mono (ok' := fun k_ => ((fun _ => True)) k_ ∧ some k_ ≠ (u8 : Value).ownBlock) (Kd.R_apart' (HO_10.out) (Kd.S_typed HO_8.out) (by decide)) (fun k_ hk => ⟨trivial, hk.2⟩))).1 k_ hk_.symm) ?aF ?aO ?aB ?aS ?aL ?_; (case aP => exact Kd.M_row (Kd.R_mono (Kd.R_tight rfl (Kd.R_mono (ok' := fun k_ => ((fun _ => True)) k_ ∧ some k_ ≠ (u8 : Value).ownBlock) (Kd.R_apart' (HO_10.out) (Kd.S_typed HO_8.out) (by decide)) (fun k_ hk => ⟨trivial, hk.2⟩))) (fun _ h_ => h_))); (case aB => exact (by repeat (first | (with_reducible first | exact HB.out | apply below_alloc | apply pw_below_drewN | apply below_drew1 | refine below_set ?_ GE210.out) | exact HB.out))); (case aF => exact (fun _ _ => trivial)); (case aO => exact (by (with_reducible repeat (first | apply Kd.S_alloc | apply Kd.S_drewN | apply Kd.S_drew)); exact Kd.S_mono HO_8.out (fun k_ hk => ⟨trivial, fun e_ => hk e_⟩))); (case aS => exact (below_size (by repeat (first | (with_reducible first | exact HB.out | apply below_alloc | apply pw_below_drewN | apply below_drew1 | refine below_set ?_ GE210.out) | exact HB.out)))); (case aL => have := LMc18.out; omega); intro v221 w19 ho hb hg hat; rw [← Ny220.out] at ho; have n0_ := Aside0.mk (blk_grown (g := gb210) (o := .cells #[.int .i64 a0_0, .slice A0_1 l0_1.length c0_1] 24 (0, 0)) (by (with_reducible repeat (first | refine blk_drewN ?_ _ | refine blk_drew ?_ | refine blk_alloc ?_ _)); exact BK210.out) hg (Kd.S_ne HO_8.out BK210.out (by decide))); have n1_ := Aside0.mk (hb); have n2_ := Aside0.mk (ho); clear BK210; clear HB; clear HO_8; clear HO_10; have BK210 := n0_; have HB := n1_; have HO222 := n2_; clear n0_ n1_ n2_; clear ho hb hg hat))
                      go_roundg k2
                      case measure => have := HK1.out; have := HK2.out; omega
                      case rel => exact ⟨(y220), (wrap64 (x9_1 + 1)), (by first | rfl | (simp; done) | (simp [*]; done)), H', ⟨by have := HK1.out; have := HK2.out; omega⟩, ⟨by (with_reducible repeat (first | apply Kd.S_alloc | apply Kd.S_drewN | apply Kd.S_drew)); exact HO222.out⟩, ⟨by (with_reducible repeat (first | refine blk_drewN ?_ _ | refine blk_drew ?_ | refine blk_alloc ?_ _)); exact BK210.out⟩, ⟨by repeat (first | (with_reducible first | exact HB.out | apply below_alloc | apply pw_below_drewN | apply below_drew1 | refine below_set ?_ GE210.out) | exact HB.out)⟩⟩
                    · rw [if_neg c18] at H
                      exact absurd H (by simp)
                · rw [if_neg c10] at H
                  exact absurd H (by simp)
              · rw [if_neg c9] at H
                exact absurd H (by simp)
        · rw [if_neg c8] at H
          have c8b0 : decide (x9_1 < (l1.length : Int)) = false := decide_eq_false c8
          clear c8
          simp only [Option.some.injEq, Prod.mk.injEq] at H
          obtain ⟨rfl, rfl⟩ := H
          go_wp2
          go_ret2
          exact ⟨_, by first | rfl | (simp [errW_none, errW_some] <;> rfl) | (simp [*, errW_none, errW_some] <;> rfl), by (with_reducible repeat (first | apply Kd.S_alloc | apply Kd.S_drewN | apply Kd.S_drew)); exact HO_8.out, by repeat (first | (with_reducible first | exact HB.out | apply below_alloc | apply pw_below_drewN | apply below_drew1 | refine below_set ?_ GE210.out) | exact HB.out)⟩
  · rw [if_neg c4] at H
    have c4b0 : (t212 == 0) = false := beq_eq_false_iff_ne.mpr c4
    have c4b1 : (t212 != 0) = true := bne_iff_ne.mpr c4
    simp only [Option.some.injEq, Prod.mk.injEq] at H
    obtain ⟨rfl, rfl⟩ := H
    go_enter Try.func19, Try.ntmps19
    go_wp2_with (first | ((with_reducible refine gate_dst (N := 2) rfl ?_); refine box_event ?hg (N := 2) ?hd (cs := #[.int .i64 a0_0, .slice A0_1 l0_1.length c0_1]) (t := 24) ?hr ?_; (case hd => rfl); (case hg => rfl); (case hr => first | (go_simp; done) | (go_simp; rfl)); intro gb210 hg w21 hbox hb; have n0_ := Aside0.mk (below_step (by repeat (first | (with_reducible first | exact HB.out | apply below_alloc | apply pw_below_drewN | apply below_drew1) | exact HB.out)) hb); have n1_ := Aside0.mk (hbox); have n2_ := Aside0.mk ((by rw [hg]; exact (below_size (by repeat (first | (with_reducible first | exact HB.out | apply below_alloc | apply pw_below_drewN | apply below_drew1) | exact HB.out))) : w.heap.size ≤ gb210)); have n3_ := Aside0.mk ((by rw [hg]; exact (below_size (by repeat (first | (with_reducible first | exact HB.out | apply below_alloc | apply pw_below_drewN | apply below_drew1) | exact HB.out))) : w.heap.size ≤ gb210)); clear HB; have HB := n0_; have BK210 := n1_; have GW210 := n2_; have GE210 := n3_; clear n0_ n1_ n2_ n3_; clear hb hbox hg; have hcz22_0 : w21.cell? ⟨gb210, 0, none⟩ = some (.int .i64 a0_0) := (blk_cell BK210.out 0).trans rfl; have hcz22_1 : w21.cell? ⟨gb210, 1, none⟩ = some (.slice A0_1 l0_1.length c0_1) := (blk_cell BK210.out 1).trans rfl; have hfz22_0 := blk_frozen BK210.out 0; have hfz22_1 := blk_frozen BK210.out 1) | ((with_reducible refine gate_callee (f := 16) rfl ?_); refine goesL_ (some 15) rfl rfl Try.func16 (by kernel_rfl) rfl #[.agg #[.int .i64 a0_0, .slice A0_1 l0_1.length c0_1], .slice A1 l1.length c1] rfl (by (try simp only [List.map_toArray, List.map_cons, List.map_nil]); first | done | rfl | (simp only [List.length_drop, List.length_take]; rfl)) ?_; (with_reducible refine (tangramref11_Check.calls k a0_0 _ _ l0_1 _ _ l1 t211 t212 _ ?side1 ?side2 ?side3 ?side4 A3.out).mono ?_); (case side1 => repeat (first | exact (Kd.C_below HR0_1.out HB.out) | (with_reducible refine Kd.C_alloc ?_ _) | (with_reducible refine Kd.C_drewN ?_ _) | (with_reducible refine Kd.C_drew ?_))); (case side2 => exact HC0_1.out); (case side3 => repeat (first | exact (Kd.C_below HR1.out HB.out) | (with_reducible refine Kd.C_alloc ?_ _) | (with_reducible refine Kd.C_drewN ?_ _) | (with_reducible refine Kd.C_drew ?_))); (case side4 => exact HC1.out); rintro e w23 ⟨rfl, hb⟩; refine ⟨_, rfl, ?_⟩; have n0_ := Aside0.mk (blk_below (g := gb210) (o := .cells #[.int .i64 a0_0, .slice A0_1 l0_1.length c0_1] 24 (0, 0)) (by (with_reducible repeat (first | refine blk_drewN ?_ _ | refine blk_drew ?_ | refine blk_alloc ?_ _)); exact BK210.out) hb); have n1_ := Aside0.mk (below_step (by repeat (first | (with_reducible first | exact HB.out | apply below_alloc | apply pw_below_drewN | apply below_drew1 | refine below_set ?_ GE210.out) | exact HB.out)) hb); clear BK210; clear HB; have BK210 := n0_; have HB := n1_; clear n0_ n1_; (try clear hb); (try clear hb2); (try clear hk); (try clear hi)))
    go_ret2
    exact ⟨_, by first | rfl | (simp [errW_none, errW_some] <;> rfl) | (simp [*, errW_none, errW_some] <;> rfl), by first | exact Kd.S_nil _ _ _ _ _ | exact Kd.N_nil _ _ _ _ _ | exact Kd.V_nil _ _ _ _ _ | exact Kd.Q_nil _ _ _ _ _ | exact Kd.R_nil _ _ _ _ _, by repeat (first | (with_reducible first | exact HB.out | apply below_alloc | apply pw_below_drewN | apply below_drew1 | refine below_set ?_ GE210.out) | exact HB.out)⟩

end Go.Proofs.Ytkkhhbegeboonaa.GAll
-- Written by a program of this session (wip/tools/printx.py) over the kit's printer and texts of its own; it is no print of print.sh.


namespace Go.Proofs.Ytkkhhbegeboonaa.GAll
open Go.RowKit Go.Proofs.YtkkhhbegeboonaaW.PrintWords Go.Proofs.YtkkhhbegeboonaaW.PrintLast Go.Proofs.YtkkhhbegeboonaaW.PrintMore
attribute [local go_sem] max2_int min2_int max_two min_two max_three min_three max_four min_four   -- for this text's walks alone
set_option linter.unusedVariables false
set_option linter.unusedSimpArgs false

/-! ### tangramref11_Next: function 17 -/
mutual
def tangramref11_Next.l0 : Nat → List (List Int) → List Int → Int → Option (List Int × Int)
  | 0, _, _, _ => none
  | k + 1, x1, x8, x9 => if x9 < (x1.length : Int) then (tangramref11_Next.l1 k x1 x8 x9 0) else (some (x8, 0))
def tangramref11_Next.l1 : Nat → List (List Int) → List Int → Int → Int → Option (List Int × Int)
  | 0, _, _, _, _ => none
  | k + 1, x1, x8, x9, x10 => if 0 ≤ x9 then (if x9 < (x1.length : Int) then (if x10 < ((rd_L4 x1 x9).length : Int) then (if 0 ≤ x10 then (if ((rd_L4 x1 x9).length : Int) = 0 then (none) else (if 0 ≤ (Int.tmod (wrap64 (x10 + 1)) ((rd_L4 x1 x9).length : Int)) then (if (Int.tmod (wrap64 (x10 + 1)) ((rd_L4 x1 x9).length : Int)) < ((rd_L4 x1 x9).length : Int) then (if 0 ≤ (rd (rd_L4 x1 x9) x10) then (if (rd (rd_L4 x1 x9) x10) < (x8.length : Int) then (tangramref11_Next.l1 k x1 (x8.set ((rd (rd_L4 x1 x9) x10) : Int).toNat (rd (rd_L4 x1 x9) (Int.tmod (wrap64 (x10 + 1)) ((rd_L4 x1 x9).length : Int)))) x9 (wrap64 (x10 + 1))) else (none)) else (none)) else (none)) else (none))) else (none)) else (tangramref11_Next.l0 k x1 x8 (wrap64 (x9 + 1)))) else (none)) else (none)
end
def tangramref11_Next.f (k : Nat) (a0_0 : Int) (l0_1 : List (S59)) (l1 : List (List Int)) : Option (List Int × Int) := (tangramref11_Check.f k a0_0 l0_1 l1).bind fun bt196 => (if bt196.2 = 0 then (if 0 ≤ (wrap64 (2 * (l0_1.length : Int))) then (if (wrap64 (2 * (l0_1.length : Int)) : Int).toNat ≤ 35184372088832 then (tangramref11_Next.l0 k l1 (List.replicate (wrap64 (2 * (l0_1.length : Int)) : Int).toNat 0) 0) else (none)) else (none)) else (some (([] : List Int), bt196.2)))
theorem tangramref11_Next.mono_l : ∀ k, (∀ y0 y1 y2, LeO (tangramref11_Next.l0 k y0 y1 y2) (tangramref11_Next.l0 (k + 1) y0 y1 y2)) ∧ (∀ y0 y1 y2 y3, LeO (tangramref11_Next.l1 k y0 y1 y2 y3) (tangramref11_Next.l1 (k + 1) y0 y1 y2 y3))
  | 0 => ⟨fun _ _ _ r h => by simp [tangramref11_Next.l0] at h, fun _ _ _ _ r h => by simp [tangramref11_Next.l1] at h⟩
  | k + 1 => by
    obtain ⟨ih0, ih1⟩ := tangramref11_Next.mono_l k
    refine ⟨?_, ?_⟩
    · intro y0 y1 y2
      unfold tangramref11_Next.l0
      repeat' first
      | (with_reducible exact ih0 _ _ _)
      | (with_reducible exact ih1 _ _ _ _)
      | (with_reducible exact tangramref11_Check.mono _ _ _ _)
      | (with_reducible exact LeO.refl _)
      | (with_reducible exact LeO.none _)
      | (with_reducible refine LeO.ite ?_ ?_)
      | (with_reducible refine LeO.bind ?_ (fun _ => ?_))
      | exact ih0 _ _ _
      | exact ih1 _ _ _ _
      | exact tangramref11_Check.mono _ _ _ _
      | exact LeO.none _
      | refine LeO.ite ?_ ?_
      | refine LeO.bind ?_ (fun _ => ?_)
    · intro y0 y1 y2 y3
      unfold tangramref11_Next.l1
      repeat' first
      | (with_reducible exact ih0 _ _ _)
      | (with_reducible exact ih1 _ _ _ _)
      | (with_reducible exact tangramref11_Check.mono _ _ _ _)
      | (with_reducible exact LeO.refl _)
      | (with_reducible exact LeO.none _)
      | (with_reducible refine LeO.ite ?_ ?_)
      | (with_reducible refine LeO.bind ?_ (fun _ => ?_))
      | exact ih0 _ _ _
      | exact ih1 _ _ _ _
      | exact tangramref11_Check.mono _ _ _ _
      | exact LeO.none _
      | refine LeO.ite ?_ ?_
      | refine LeO.bind ?_ (fun _ => ?_)
theorem tangramref11_Next.mono : ∀ a0 a1 a2 k, LeO (tangramref11_Next.f k a0 a1 a2) (tangramref11_Next.f (k + 1) a0 a1 a2) := by
  intro a0 a1 a2 k
  obtain ⟨ih0, ih1⟩ := tangramref11_Next.mono_l k
  unfold tangramref11_Next.f
  repeat' first
      | (with_reducible exact ih0 _ _ _)
      | (with_reducible exact ih1 _ _ _ _)
      | (with_reducible exact tangramref11_Check.mono _ _ _ _)
      | (with_reducible exact LeO.refl _)
      | (with_reducible exact LeO.none _)
      | (with_reducible refine LeO.ite ?_ ?_)
      | (with_reducible refine LeO.bind ?_ (fun _ => ?_))
      | exact ih0 _ _ _
      | exact ih1 _ _ _ _
      | exact tangramref11_Check.mono _ _ _ _
      | exact LeO.none _
      | refine LeO.ite ?_ ?_
      | refine LeO.bind ?_ (fun _ => ?_)
def tangramref11_Next.T11 : Bool × List (List Nat × List Nat) := (true, [([], []), ([], []), ([], []), ([1, 2], [1, 2]), ([3], [3]), ([], []), ([4, 5], [4, 5]), ([6], [6]), ([], []), ([], []), ([8, 9], [8, 9]), ([10], [10]), ([], []), ([12], [12]), ([], []), ([], []), ([14, 15], [14, 15]), ([16], [16]), ([17], [17]), ([13, 18], [13, 18]), ([11, 19], [11, 19]), ([20], [20]), ([0, 7, 0, 1, 2, 3, 4, 5, 6, 7, 8, 9, 10, 11, 12, 13, 14, 15, 16, 17, 18, 19, 20, 21], [0, 7]), ([22, 21, 0, 1, 2, 3, 4, 5, 6, 7, 8, 9, 10, 11, 12, 13, 14, 15, 16, 17, 18, 19, 20, 21], [21, 22])])
def tangramref11_Next.B11 : List Nat := [0, 0, 0, 6, 14, 0, 62, 126, 0, 0, 768, 1792, 0, 4096, 0, 0, 49152, 114688, 245760, 520192, 1048320, 2096896, 4194303, 8388607]
theorem tangramref11_Next.tab11 : rtab .any (opsOf Try.f17 11) = tangramref11_Next.T11 := by kernel_rfl
theorem tangramref11_Next.bits11 : waitsOk tangramref11_Next.T11.2 tangramref11_Next.B11 = true := by kernel_rfl
set_option maxHeartbeats 8000000 in
set_option maxRecDepth 100000 in
theorem tangramref11_Next.calls (k : Nat) (a0_0 : Int) (A0_1 : Option Addr) (c0_1 : Nat) (l0_1 : List (S59)) (A1 : Option Addr) (c1 : Nat) (l1 : List (List Int)) (r1 : List Int) (r2 : Int) (w : World) (hr0_1 : Kd.C k59 w A0_1 l0_1.length l0_1) (hc0_1 : l0_1.length ≤ c0_1) (hr1 : Kd.C (Kd.slice 3 (Kd.int .i64)) w A1 l1.length l1) (hc1 : l1.length ≤ c1) (h : tangramref11_Next.f k a0_0 l0_1 l1 = some (r1, r2)) :
    Calls Try.prog 17 #[.agg #[.int .i64 a0_0, .slice A0_1 l0_1.length c0_1], .slice A1 l1.length c1] w fun e w' => ∃ v0_ : Value, e = .returned (.tuple #[v0_, .int .i64 r2]) ∧ Kd.R (Kd.int .i64) 3 w' w.heap.size (fun _ => True) v0_ r1 ∧ Below w.heap.size w w' := by
  have hu24 := Try.underlying24
  have HR0_1 := Aside0.mk hr0_1
  have HC0_1 := Aside0.mk hc0_1
  clear hr0_1 hc0_1
  have HR1 := Aside0.mk hr1
  have HC1 := Aside0.mk hc1
  clear hr1 hc1
  have HB := Aside0.mk (Below.refl w.heap.size w)
  have H : ((tangramref11_Check.f k a0_0 l0_1 l1).bind fun bt196 => (if bt196.2 = 0 then (if 0 ≤ (wrap64 (2 * (l0_1.length : Int))) then (if (wrap64 (2 * (l0_1.length : Int)) : Int).toNat ≤ 35184372088832 then (tangramref11_Next.l0 k l1 (List.replicate (wrap64 (2 * (l0_1.length : Int)) : Int).toNat 0) 0) else (none)) else (none)) else (some (([] : List Int), bt196.2)))) = some (r1, r2) := h
  clear h
  replace H := Option.bind_eq_some_iff.mp H
  obtain ⟨⟨t196, t197⟩, A30, H⟩ := H
  replace H : (if t197 = 0 then (if 0 ≤ (wrap64 (2 * (l0_1.length : Int))) then (if (wrap64 (2 * (l0_1.length : Int)) : Int).toNat ≤ 35184372088832 then (tangramref11_Next.l0 k l1 (List.replicate (wrap64 (2 * (l0_1.length : Int)) : Int).toNat 0) 0) else (none)) else (none)) else (some (([] : List Int), t197))) = some (r1, r2) := H
  have A3 := Aside0.mk A30
  clear A30
  by_cases c4 : t197 = 0
  · rw [if_pos c4] at H
    have c4b0 : (t197 == 0) = true := beq_iff_eq.mpr c4
    have c4b1 : (t197 != 0) = false := bne_eq_false_iff_eq.mpr c4
    clear c4
    obtain ⟨ji5, hji5⟩ : ∃ j_ : Int, (wrap64 (2 * (l0_1.length : Int))) = j_ := ⟨_, rfl⟩
    replace H : (if 0 ≤ (ji5) then (if (ji5 : Int).toNat ≤ 35184372088832 then (tangramref11_Next.l0 k l1 (List.replicate (ji5 : Int).toNat 0) 0) else (none)) else (none)) = some (r1, r2) := by first | (rw [hji5] at H; exact H) | (simp only [hji5] at H ⊢; exact H)
    (try rw [hji5] at A3)
    have hji5w : (IntKind.i64.wrap (2 * (l0_1.length : Int))) = ji5 := (i64_w _).trans hji5
    by_cases c6 : 0 ≤ (ji5)
    · rw [if_pos c6] at H
      have c6b0 := eq_true c6
      have c6b1 : decide (0 ≤ (ji5)) = true := decide_eq_true c6
      clear c6
      by_cases c7 : (ji5 : Int).toNat ≤ 35184372088832
      · rw [if_pos c7] at H
        have c7b0 := eq_true c7
        have c7b1 : decide ((ji5 : Int).toNat ≤ 35184372088832) = true := decide_eq_true c7
        clear c7
        obtain ⟨y198, hy198⟩ : ∃ y_ : List Int, y_ = (List.replicate (ji5 : Int).toNat 0) := ⟨_, rfl⟩
        replace H : (tangramref11_Next.l0 k l1 y198 0) = some (r1, r2) := by first | (rw [hy198]; with_reducible exact H) | (have H2_ := (Option.bind_some _ _).symm.trans H; rw [hy198]; with_reducible exact H2_) | (have H2_ := (Option.bind_some _ _).symm.trans H; with_reducible exact H2_) | with_reducible exact H | (rw [hy198]; exact H) | exact H
        have Ny198 := Aside0.mk hy198
        clear hy198
        have H' := Aside0.mk H
        clear H
        go_enter Try.func17, Try.ntmps17
        go_wp2_with (first | ((with_reducible refine gate_dst (N := 2) rfl ?_); refine box_event ?hg (N := 2) ?hd (cs := #[.int .i64 a0_0, .slice A0_1 l0_1.length c0_1]) (t := 24) ?hr ?_; (case hd => rfl); (case hg => rfl); (case hr => first | (go_simp; done) | (go_simp; rfl)); intro gb195 hg w8 hbox hb; have n0_ := Aside0.mk (below_step (by repeat (first | (with_reducible first | exact HB.out | apply below_alloc | apply pw_below_drewN | apply below_drew1) | exact HB.out)) hb); have n1_ := Aside0.mk (hbox); have n2_ := Aside0.mk ((by rw [hg]; exact (below_size (by repeat (first | (with_reducible first | exact HB.out | apply below_alloc | apply pw_below_drewN | apply below_drew1) | exact HB.out))) : w.heap.size ≤ gb195)); have n3_ := Aside0.mk ((by rw [hg]; exact (below_size (by repeat (first | (with_reducible first | exact HB.out | apply below_alloc | apply pw_below_drewN | apply below_drew1) | exact HB.out))) : w.heap.size ≤ gb195)); clear HB; have HB := n0_; have BK195 := n1_; have GW195 := n2_; have GE195 := n3_; clear n0_ n1_ n2_ n3_; clear hb hbox hg; have hcz9_0 : w8.cell? ⟨gb195, 0, none⟩ = some (.int .i64 a0_0) := (blk_cell BK195.out 0).trans rfl; have hcz9_1 : w8.cell? ⟨gb195, 1, none⟩ = some (.slice A0_1 l0_1.length c0_1) := (blk_cell BK195.out 1).trans rfl; have hfz9_0 := blk_frozen BK195.out 0; have hfz9_1 := blk_frozen BK195.out 1) | ((with_reducible refine gate_callee (f := 16) rfl ?_); refine goesL_ (some 14) rfl rfl Try.func16 (by kernel_rfl) rfl #[.agg #[.int .i64 a0_0, .slice A0_1 l0_1.length c0_1], .slice A1 l1.length c1] rfl (by (try simp only [List.map_toArray, List.map_cons, List.map_nil]); first | done | rfl | (simp only [List.length_drop, List.length_take]; rfl)) ?_; (with_reducible refine (tangramref11_Check.calls k a0_0 _ _ l0_1 _ _ l1 t196 t197 _ ?side1 ?side2 ?side3 ?side4 A3.out).mono ?_); (case side1 => repeat (first | exact (Kd.C_below HR0_1.out HB.out) | (with_reducible refine Kd.C_alloc ?_ _) | (with_reducible refine Kd.C_drewN ?_ _) | (with_reducible refine Kd.C_drew ?_))); (case side2 => exact HC0_1.out); (case side3 => repeat (first | exact (Kd.C_below HR1.out HB.out) | (with_reducible refine Kd.C_alloc ?_ _) | (with_reducible refine Kd.C_drewN ?_ _) | (with_reducible refine Kd.C_drew ?_))); (case side4 => exact HC1.out); rintro e w10 ⟨rfl, hb⟩; refine ⟨_, rfl, ?_⟩; have n0_ := Aside0.mk (blk_below (g := gb195) (o := .cells #[.int .i64 a0_0, .slice A0_1 l0_1.length c0_1] 24 (0, 0)) (by (with_reducible repeat (first | refine blk_drewN ?_ _ | refine blk_drew ?_ | refine blk_alloc ?_ _)); exact BK195.out) hb); have n1_ := Aside0.mk (below_step (by repeat (first | (with_reducible first | exact HB.out | apply below_alloc | apply pw_below_drewN | apply below_drew1 | refine below_set ?_ GE195.out) | exact HB.out)) hb); clear BK195; clear HB; have BK195 := n0_; have HB := n1_; clear n0_ n1_; (try clear hb); (try clear hb2); (try clear hk); (try clear hi); have hcz11_0 : w10.cell? ⟨gb195, 0, none⟩ = some (.int .i64 a0_0) := (blk_cell BK195.out 0).trans rfl; have hcz11_1 : w10.cell? ⟨gb195, 1, none⟩ = some (.slice A0_1 l0_1.length c0_1) := (blk_cell BK195.out 1).trans rfl; have hfz11_0 := blk_frozen BK195.out 0; have hfz11_1 := blk_frozen BK195.out 1) | ((with_reducible refine gate_dst (N := 24) rfl ?_); refine Kd.R_make (Kd.int .i64) _ 3 rfl (N := 24) rfl 28 _ _ rfl ji5 rfl rfl Try.underlying28 (.int .i64 0) 8 info3 rfl (by decide) (by omega) 0 (ok := fun _ => True) (okp := fun _ => True) rfl (fun _ hk => hk) trivial (of_decide_eq_true (by first | (with_reducible assumption) | assumption)) (Nat.le_trans (Nat.mul_le_mul_right _ (of_decide_eq_true (by first | (with_reducible assumption) | assumption) : ji5.toNat ≤ 35184372088832)) (by omega)) (Below.refl _ _) (Nat.le_refl _) ?_; intro v199 w12 ho13 hb hg_ hnew_; clear hg_ hnew_; (first | rw [← Ny198.out] at ho13 | (simp only [Int.reduceToNat] at ho13; rw [← Ny198.out] at ho13)); have n0_ := Aside0.mk (Kd.R_lower ho13 (below_size (by repeat (first | (with_reducible first | exact HB.out | apply below_alloc | apply pw_below_drewN | apply below_drew1 | refine below_set ?_ GE195.out) | exact HB.out)))); have n1_ := Aside0.mk (blk_below (g := gb195) (o := .cells #[.int .i64 a0_0, .slice A0_1 l0_1.length c0_1] 24 (0, 0)) (by (with_reducible repeat (first | refine blk_drewN ?_ _ | refine blk_drew ?_ | refine blk_alloc ?_ _)); exact BK195.out) hb); have n2_ := Aside0.mk (below_step (by repeat (first | (with_reducible first | exact HB.out | apply below_alloc | apply pw_below_drewN | apply below_drew1 | refine below_set ?_ GE195.out) | exact HB.out)) hb); clear BK195; clear HB; have HO200 := n0_; have BK195 := n1_; have HB := n2_; clear n0_ n1_ n2_; clear hb ho13))
        go_loopg [9] k (fun kq v9 w' => ∃ (x8_1 : List Int) (x9_1 : Int), v9 = .int .i64 x9_1 ∧ Aside0 (tangramref11_Next.l0 kq l1 x8_1 x9_1 = some (r1, r2)) ∧ Aside0 (kq ≤ k) ∧ Aside0 (Kd.R (Kd.int .i64) 3 w' w.heap.size (fun _ => True) v199 x8_1) ∧ Aside0 (w'.heap[gb195]? = some (.cells #[.int .i64 a0_0, (.slice A0_1 l0_1.length c0_1)] 24 (0, 0))) ∧ Aside0 (Below w.heap.size w w'))
        case atStart => exact ⟨(y198), (0), (by first | rfl | (simp; done) | (simp [*]; done)), H', ⟨Nat.le_refl _⟩, ⟨by (with_reducible repeat (first | apply Kd.R_alloc | apply Kd.R_drewN | apply Kd.R_drew)); exact HO200.out⟩, ⟨by (with_reducible repeat (first | refine blk_drewN ?_ _ | refine blk_drew ?_ | refine blk_alloc ?_ _)); exact BK195.out⟩, ⟨by repeat (first | (with_reducible first | exact HB.out | apply below_alloc | apply pw_below_drewN | apply below_drew1 | refine below_set ?_ GE195.out) | exact HB.out)⟩⟩
        case round =>
          clear H'
          try clear c1
          try clear p2
          try clear c4
          try clear c4b0
          try clear c4b1
          try clear c6
          try clear c6b0
          try clear c6b1
          try clear p6
          try clear c7
          try clear c7b0
          try clear c7b1
          try clear hcz11_0
          try clear hcz11_1
          try clear hcz9_0
          try clear hcz9_1
          try clear hfz11_0
          try clear hfz11_1
          try clear hfz9_0
          try clear hfz9_1
          obtain ⟨x8_1, x9_1, rfl, HA, HK1, HO_8, BK195, HB⟩ := hrel
          cases gk with
          | zero => exact absurd HA.out (by simp [tangramref11_Next.l0])
          | succ k1 =>
            have H := HA.out
            clear HA
            simp only [tangramref11_Next.l0] at H
            by_cases c14 : x9_1 < (l1.length : Int)
            · rw [if_pos c14] at H
              have c14b0 : decide (x9_1 < (l1.length : Int)) = true := decide_eq_true c14
              clear c14
              have H' := Aside0.mk H
              clear H
              go_wp2
              go_loopg [10] k1 (fun kq v10 w' => ∃ (x8_2 : List Int) (x10_2 : Int), v10 = .int .i64 x10_2 ∧ Aside0 (tangramref11_Next.l1 kq l1 x8_2 x9_1 x10_2 = some (r1, r2)) ∧ Aside0 (kq ≤ k1) ∧ Aside0 (Kd.R (Kd.int .i64) 3 w' w.heap.size (fun _ => True) v199 x8_2) ∧ Aside0 (w'.heap[gb195]? = some (.cells #[.int .i64 a0_0, (.slice A0_1 l0_1.length c0_1)] 24 (0, 0))) ∧ Aside0 (Below w.heap.size w w'))
              case atStart => exact ⟨(x8_1), (0), (by first | rfl | (simp; done) | (simp [*]; done)), H', ⟨Nat.le_refl _⟩, ⟨by (with_reducible repeat (first | apply Kd.R_alloc | apply Kd.R_drewN | apply Kd.R_drew)); exact HO_8.out⟩, ⟨by (with_reducible repeat (first | refine blk_drewN ?_ _ | refine blk_drew ?_ | refine blk_alloc ?_ _)); exact BK195.out⟩, ⟨by repeat (first | (with_reducible first | exact HB.out | apply below_alloc | apply pw_below_drewN | apply below_drew1 | refine below_set ?_ GE195.out) | exact HB.out)⟩⟩
              case round =>
                clear H'
                try clear c1
                try clear p2
                try clear c4
                try clear c4b0
                try clear c4b1
                try clear c6
                try clear c6b0
                try clear c6b1
                try clear p6
                try clear c7
                try clear c7b0
                try clear c7b1
                try clear c14
                try clear c14b0
                try clear hcz11_0
                try clear hcz11_1
                try clear hcz9_0
                try clear hcz9_1
                try clear hfz11_0
                try clear hfz11_1
                try clear hfz9_0
                try clear hfz9_1
                try clear p2
                try clear p6
                obtain ⟨x8_2, x10_2, rfl, HA, HK2, HO_8, BK195, HB⟩ := hrel
                cases gk with
                | zero => exact absurd HA.out (by simp [tangramref11_Next.l1])
                | succ k2 =>
                  have H := HA.out
                  clear HA
                  simp only [tangramref11_Next.l1] at H
                  by_cases c15 : 0 ≤ x9_1
                  · rw [if_pos c15] at H
                    have c15b0 : decide (0 ≤ x9_1) = true := decide_eq_true c15
                    clear c15
                    by_cases c16 : x9_1 < (l1.length : Int)
                    · rw [if_pos c16] at H
                      have c16b0 : decide (x9_1 < (l1.length : Int)) = true := decide_eq_true c16
                      clear c16
                      by_cases c17 : x10_2 < ((rd_L4 l1 x9_1).length : Int)
                      · rw [if_pos c17] at H
                        have c17b0 : decide (x10_2 < ((rd_L4 l1 x9_1).length : Int)) = true := decide_eq_true c17
                        clear c17
                        by_cases c18 : 0 ≤ x10_2
                        · rw [if_pos c18] at H
                          have c18b0 : decide (0 ≤ x10_2) = true := decide_eq_true c18
                          clear c18
                          by_cases c19 : ((rd_L4 l1 x9_1).length : Int) = 0
                          · rw [if_pos c19] at H
                            exact absurd H (by simp)
                          · rw [if_neg c19] at H
                            have c19b0 : (((rd_L4 l1 x9_1).length : Int) == 0) = false := beq_eq_false_iff_ne.mpr c19
                            have c19b1 : (((rd_L4 l1 x9_1).length : Int) != 0) = true := bne_iff_ne.mpr c19
                            have c19b2 : ¬ ((rd_L4 l1 x9_1) = []) := fun h_ => c19 (by rw [h_]; rfl)
                            obtain ⟨ji20, hji20⟩ : ∃ j_ : Int, (Int.tmod (wrap64 (x10_2 + 1)) ((rd_L4 l1 x9_1).length : Int)) = j_ := ⟨_, rfl⟩
                            replace H : (if 0 ≤ (ji20) then (if (ji20) < ((rd_L4 l1 x9_1).length : Int) then (if 0 ≤ (rd (rd_L4 l1 x9_1) x10_2) then (if (rd (rd_L4 l1 x9_1) x10_2) < (x8_2.length : Int) then (tangramref11_Next.l1 k2 l1 (x8_2.set ((rd (rd_L4 l1 x9_1) x10_2) : Int).toNat (rd (rd_L4 l1 x9_1) (ji20))) x9_1 (wrap64 (x10_2 + 1))) else (none)) else (none)) else (none)) else (none)) = some (r1, r2) := by first | (rw [hji20] at H; exact H) | (simp only [hji20] at H ⊢; exact H)
                            by_cases c21 : 0 ≤ (ji20)
                            · rw [if_pos c21] at H
                              have c21b0 : decide (0 ≤ (ji20)) = true := decide_eq_true c21
                              clear c21
                              by_cases c22 : (ji20) < ((rd_L4 l1 x9_1).length : Int)
                              · rw [if_pos c22] at H
                                have c22b0 : decide ((ji20) < ((rd_L4 l1 x9_1).length : Int)) = true := decide_eq_true c22
                                clear c22
                                by_cases c23 : 0 ≤ (rd (rd_L4 l1 x9_1) x10_2)
                                · rw [if_pos c23] at H
                                  have c23b0 : decide (0 ≤ (rd (rd_L4 l1 x9_1) x10_2)) = true := decide_eq_true c23
                                  clear c23
                                  by_cases c24 : (rd (rd_L4 l1 x9_1) x10_2) < (x8_2.length : Int)
                                  · rw [if_pos c24] at H
                                    have c24b0 : decide ((rd (rd_L4 l1 x9_1) x10_2) < (x8_2.length : Int)) = true := decide_eq_true c24
                                    clear c24
                                    obtain ⟨y207, hy207⟩ : ∃ y_ : List Int, y_ = (x8_2.set ((rd (rd_L4 l1 x9_1) x10_2) : Int).toNat (rd (rd_L4 l1 x9_1) (ji20))) := ⟨_, rfl⟩
                                    replace H : (tangramref11_Next.l1 k2 l1 y207 x9_1 (wrap64 (x10_2 + 1))) = some (r1, r2) := by first | (rw [hy207]; with_reducible exact H) | (have H2_ := (Option.bind_some _ _).symm.trans H; rw [hy207]; with_reducible exact H2_) | (have H2_ := (Option.bind_some _ _).symm.trans H; with_reducible exact H2_) | with_reducible exact H | (rw [hy207]; exact H) | exact H
                                    have Ny207 := Aside0.mk hy207
                                    clear hy207
                                    have H' := Aside0.mk H
                                    clear H
                                    have p201 : 0 ≤ (x9_1 : Int) := of_decide_eq_true (by first | (with_reducible assumption) | assumption)
                                    have q201 : x9_1 < (l1.length : Int) := of_decide_eq_true (by first | (with_reducible assumption) | assumption)
                                    obtain ⟨ad201, A201_0, c201_0, e201, hx201_0, hl201_0, hi201_0⟩ := at_L4 HR1.out x9_1 p201 q201
                                    cases e201
                                    replace hx201_0 := (HB.out.cell (World.block_lt_of_cell? w _ hx201_0)).trans hx201_0
                                    have HR201_0 := Aside0.mk hi201_0
                                    have HC201_0 := Aside0.mk hl201_0
                                    clear hi201_0 hl201_0
                                    replace p201 := eq_true p201
                                    replace q201 := eq_true q201
                                    try go_wp2
                                    have n0_ := Aside0.mk (Kd.R_drew HO_8.out)
                                    have n1_ := Aside0.mk (blk_drew BK195.out)
                                    have n2_ := Aside0.mk (below_drew1 HB.out)
                                    clear HO_8
                                    clear BK195
                                    clear HB
                                    have HO_8 := n0_
                                    have BK195 := n1_
                                    have HB := n2_
                                    clear n0_ n1_ n2_
                                    have p202 : 0 ≤ (x9_1 : Int) := of_decide_eq_true (by first | (with_reducible assumption) | assumption)
                                    have q202 : x9_1 < (l1.length : Int) := of_decide_eq_true (by first | (with_reducible assumption) | assumption)
                                    obtain ⟨ad202, A202_0, c202_0, e202, hx202_0, hl202_0, hi202_0⟩ := at_L4 HR1.out x9_1 p202 q202
                                    have hw202_0 := hx202_0
                                    obtain rfl : ad201 = ad202 := (by injection e202)
                                    replace hx202_0 := (HB.out.cell (World.block_lt_of_cell? w _ hx202_0)).trans hx202_0
                                    have HR202_0 := Aside0.mk hi202_0
                                    have HC202_0 := Aside0.mk hl202_0
                                    clear hi202_0 hl202_0
                                    replace p202 := eq_true p202
                                    replace q202 := eq_true q202
                                    have p203 : 0 ≤ (x10_2 : Int) := of_decide_eq_true (by first | (with_reducible assumption) | assumption)
                                    have q203 : x10_2 < ((rd_L4 l1 x9_1).length : Int) := of_decide_eq_true (by first | (with_reducible assumption) | assumption)
                                    obtain ⟨ad203, e203, hx203_0⟩ := Kd.at_int HR202_0.out x10_2 p203 q203
                                    have hw203_0 := hx203_0
                                    cases e203
                                    replace hx203_0 := (HB.out.cell (World.block_lt_of_cell? w _ hx203_0)).trans hx203_0
                                    replace p203 := eq_true p203
                                    replace q203 := eq_true q203
                                    have p204 : 0 ≤ (x9_1 : Int) := of_decide_eq_true (by first | (with_reducible assumption) | assumption)
                                    have q204 : x9_1 < (l1.length : Int) := of_decide_eq_true (by first | (with_reducible assumption) | assumption)
                                    obtain ⟨ad204, A204_0, c204_0, e204, hx204_0, hl204_0, hi204_0⟩ := at_L4 HR1.out x9_1 p204 q204
                                    have hw204_0 := hx204_0
                                    obtain rfl : ad201 = ad204 := (by injection e204)
                                    replace hx204_0 := (HB.out.cell (World.block_lt_of_cell? w _ hx204_0)).trans hx204_0
                                    have HR204_0 := Aside0.mk hi204_0
                                    have HC204_0 := Aside0.mk hl204_0
                                    clear hi204_0 hl204_0
                                    replace p204 := eq_true p204
                                    replace q204 := eq_true q204
                                    have ea_ := Option.some.inj (hx202_0.symm.trans hx204_0)
                                    injection ea_ with ea_ en_ ec_
                                    subst ea_
                                    subst ec_
                                    clear en_
                                    have p205 : 0 ≤ (x9_1 : Int) := of_decide_eq_true (by first | (with_reducible assumption) | assumption)
                                    have q205 : x9_1 < (l1.length : Int) := of_decide_eq_true (by first | (with_reducible assumption) | assumption)
                                    obtain ⟨ad205, A205_0, c205_0, e205, hx205_0, hl205_0, hi205_0⟩ := at_L4 HR1.out x9_1 p205 q205
                                    have hw205_0 := hx205_0
                                    obtain rfl : ad201 = ad205 := (by injection e205)
                                    replace hx205_0 := (HB.out.cell (World.block_lt_of_cell? w _ hx205_0)).trans hx205_0
                                    have HR205_0 := Aside0.mk hi205_0
                                    have HC205_0 := Aside0.mk hl205_0
                                    clear hi205_0 hl205_0
                                    replace p205 := eq_true p205
                                    replace q205 := eq_true q205
                                    have ea_ := Option.some.inj (hx202_0.symm.trans hx205_0)
                                    injection ea_ with ea_ en_ ec_
                                    subst ea_
                                    subst ec_
                                    clear en_
                                    have p206 : 0 ≤ ((ji20) : Int) := of_decide_eq_true (by first | (with_reducible assumption) | assumption)
                                    have q206 : (ji20) < ((rd_L4 l1 x9_1).length : Int) := of_decide_eq_true (by first | (with_reducible assumption) | assumption)
                                    obtain ⟨ad206, e206, hx206_0⟩ := Kd.at_int HR204_0.out (ji20) p206 q206
                                    have hw206_0 := hx206_0
                                    cases e206
                                    replace hx206_0 := (HB.out.cell (World.block_lt_of_cell? w _ hx206_0)).trans hx206_0
                                    replace p206 := eq_true p206
                                    replace q206 := eq_true q206
                                    have p25 : 0 ≤ ((rd (rd_L4 l1 x9_1) x10_2) : Int) := of_decide_eq_true (by first | (with_reducible assumption) | assumption)
                                    have q25 : ((rd (rd_L4 l1 x9_1) x10_2) : Int) < ((x8_2.length : Int) : Int) := of_decide_eq_true (by first | (with_reducible assumption) | assumption)
                                    obtain ⟨go25, co25, eo25, gb25, gl25, cl25, HG25⟩ := Kd.R_form HO_8.out (by omega)
                                    (first | cases eo25 | (injection eo25 with ea_ en_ ec_; (first | subst ea_ | (injection ea_ with ea_; subst ea_)); subst ec_; clear en_))
                                    have GB25 := Aside0.mk gb25
                                    have GG25 := Aside0.mk HG25
                                    clear gb25 gl25 HG25
                                    obtain ⟨hx25_0, hf25_0⟩ := Kd.R_celln 0 HO_8.out ((rd (rd_L4 l1 x9_1) x10_2) : Int) p25 q25
                                    replace p25 := eq_true p25
                                    replace q25 := eq_true q25
                                    have HP27 := Kd.R_putn HO_8.out ((rd (rd_L4 l1 x9_1) x10_2) : Int) (rd (rd_L4 l1 x9_1) (ji20))
                                    rw [← Ny207.out] at HP27
                                    have HQ27 := Aside0.mk HP27
                                    clear HP27
                                    refine start_ (n := 24) (S := fun w' => w'.cell? (ad201.add (x9_1).toNat) = some (.slice (some ad203) (rd_L4 l1 x9_1).length c202_0) ∧ w'.cell? (ad203.add (x10_2).toNat) = some (.int .i64 (rd (rd_L4 l1 x9_1) x10_2)) ∧ w'.cell? (ad201.add (x9_1).toNat) = some (.slice (some ad203) (rd_L4 l1 x9_1).length c202_0) ∧ w'.cell? (ad201.add (x9_1).toNat) = some (.slice (some ad203) (rd_L4 l1 x9_1).length c202_0) ∧ w'.cell? (ad203.add ((ji20)).toNat) = some (.int .i64 (rd (rd_L4 l1 x9_1) (ji20)))) (ds := [23]) #[false, false, false, false, false, false, false, false, false, false, false, false, false, false, false, false, false, false, false, false, false, false, false, false] (by kernel_rfl) rfl rfl ⟨((HB.out.cell (World.block_lt_of_cell? w _ hw202_0)).trans hw202_0), ((HB.out.cell (World.block_lt_of_cell? w _ hw203_0)).trans hw203_0), ((HB.out.cell (World.block_lt_of_cell? w _ hw204_0)).trans hw204_0), ((HB.out.cell (World.block_lt_of_cell? w _ hw205_0)).trans hw205_0), ((HB.out.cell (World.block_lt_of_cell? w _ hw206_0)).trans hw206_0)⟩ (fun hHeld => ?_); refine with_tabW tangramref11_Next.tab11 tangramref11_Next.bits11 (fun HT_ HW_ => ?_)
                                    generalize wr.drew = w26 at HO_8 BK195 HB GG25 HQ27 HR202_0 HR204_0 HR205_0 hf25_0 hx202_0 hx203_0 hx204_0 hx205_0 hx206_0 hx25_0 hHeld ⊢
                                    refine pure_ (i := 0) (N := some 40) (v := ?_) (a' := ?_) #[true, false, false, false, false, false, false, false, false, false, false, false, false, false, false, false, false, false, false, false, false, false, false, false] rfl rfl (any_of HT_.out (by kernel_rfl)) (fun _ _ _ h => h) (Or.inl ⟨by rfl, ?_⟩) ?_ ?_
                                    rotate_left
                                    · intro w'
                                      go_simp
                                      with_reducible rfl
                                    rotate_left
                                    · simp only [Act.put, List.setIfInBounds_toArray, List.set_cons_zero, List.set_cons_succ, i64_w, i32_w]
                                      rfl
                                    refine pure_ (i := 1) (N := some 41) (v := ?_) (a' := ?_) #[true, true, false, false, false, false, false, false, false, false, false, false, false, false, false, false, false, false, false, false, false, false, false, false] rfl rfl (any_of HT_.out (by kernel_rfl)) (fun _ _ _ h => h) (Or.inl ⟨by rfl, ?_⟩) ?_ ?_
                                    rotate_left
                                    · intro w'
                                      go_simp
                                      with_reducible rfl
                                    rotate_left
                                    · simp only [Act.put, List.setIfInBounds_toArray, List.set_cons_zero, List.set_cons_succ, i64_w, i32_w]
                                      rfl
                                    refine pure_ (i := 2) (N := some 42) (v := ?_) (a' := ?_) #[true, true, true, false, false, false, false, false, false, false, false, false, false, false, false, false, false, false, false, false, false, false, false, false] rfl rfl (any_of HT_.out (by kernel_rfl)) (fun _ _ _ h => h) (Or.inl ⟨by rfl, ?_⟩) ?_ ?_
                                    rotate_left
                                    · intro w'
                                      go_simp
                                      with_reducible rfl
                                    rotate_left
                                    · simp only [Act.put, List.setIfInBounds_toArray, List.set_cons_zero, List.set_cons_succ, i64_w, i32_w]
                                      rfl
                                    refine pure_ (i := 3) (N := some 43) (v := ?_) (a' := ?_) #[true, true, true, true, false, false, false, false, false, false, false, false, false, false, false, false, false, false, false, false, false, false, false, false] rfl rfl (any_of HT_.out (by kernel_rfl)) (fun _ _ _ h => h) (Or.inl ⟨by rfl, ?_⟩) ?_ ?_
                                    rotate_left
                                    · intro w'
                                      go_simp
                                      with_reducible rfl
                                    rotate_left
                                    · simp only [Act.put, List.setIfInBounds_toArray, List.set_cons_zero, List.set_cons_succ, i64_w, i32_w]
                                      rfl
                                    refine pure_ (i := 5) (N := some 45) (v := ?_) (a' := ?_) #[true, true, true, true, false, true, false, false, false, false, false, false, false, false, false, false, false, false, false, false, false, false, false, false] rfl rfl (any_of HT_.out (by kernel_rfl)) (fun _ _ _ h => h) (Or.inl ⟨by rfl, ?_⟩) ?_ ?_
                                    rotate_left
                                    · intro w'
                                      go_simp
                                      with_reducible rfl
                                    rotate_left
                                    · simp only [Act.put, List.setIfInBounds_toArray, List.set_cons_zero, List.set_cons_succ, i64_w, i32_w]
                                      rfl
                                    refine pure_ (i := 8) (N := some 48) (v := ?_) (a' := ?_) #[true, true, true, true, false, true, false, false, true, false, false, false, false, false, false, false, false, false, false, false, false, false, false, false] rfl rfl (any_of HT_.out (by kernel_rfl)) (fun _ _ _ h => h) (Or.inl ⟨by rfl, ?_⟩) ?_ ?_
                                    rotate_left
                                    · intro w'
                                      go_simp
                                      with_reducible rfl
                                    rotate_left
                                    · simp only [Act.put, List.setIfInBounds_toArray, List.set_cons_zero, List.set_cons_succ, i64_w, i32_w]
                                      rfl
                                    refine pure_ (i := 9) (N := some 49) (v := ?_) (a' := ?_) #[true, true, true, true, false, true, false, false, true, true, false, false, false, false, false, false, false, false, false, false, false, false, false, false] rfl rfl (any_of HT_.out (by kernel_rfl)) (fun _ _ _ h => h) (Or.inl ⟨by rfl, ?_⟩) ?_ ?_
                                    rotate_left
                                    · intro w'
                                      go_simp
                                      with_reducible rfl
                                    rotate_left
                                    · simp only [Act.put, List.setIfInBounds_toArray, List.set_cons_zero, List.set_cons_succ, i64_w, i32_w]
                                      rfl
                                    refine pure_ (i := 10) (N := some 50) (v := ?_) (a' := ?_) #[true, true, true, true, false, true, false, false, true, true, true, false, false, false, false, false, false, false, false, false, false, false, false, false] rfl rfl (any_of HT_.out (by kernel_rfl)) (fun _ _ _ h => h) (Or.inl ⟨by rfl, ?_⟩) ?_ ?_
                                    rotate_left
                                    · intro w'
                                      go_simp
                                      with_reducible rfl
                                    rotate_left
                                    · simp only [Act.put, List.setIfInBounds_toArray, List.set_cons_zero, List.set_cons_succ, i64_w, i32_w]
                                      rfl
                                    refine pure_ (i := 12) (N := some 52) (v := ?_) (a' := ?_) #[true, true, true, true, false, true, false, false, true, true, true, false, true, false, false, false, false, false, false, false, false, false, false, false] rfl rfl (any_of HT_.out (by kernel_rfl)) (fun _ _ _ h => h) (Or.inl ⟨by rfl, ?_⟩) ?_ ?_
                                    rotate_left
                                    · intro w'
                                      go_simp
                                      with_reducible rfl
                                    rotate_left
                                    · simp only [Act.put, List.setIfInBounds_toArray, List.set_cons_zero, List.set_cons_succ, i64_w, i32_w]
                                      rfl
                                    refine pure_ (i := 13) (N := some 53) (v := ?_) (a' := ?_) #[true, true, true, true, false, true, false, false, true, true, true, false, true, true, false, false, false, false, false, false, false, false, false, false] rfl rfl (any_of HT_.out (by kernel_rfl)) (fun _ _ _ h => h) (Or.inl ⟨by rfl, ?_⟩) ?_ ?_
                                    rotate_left
                                    · intro w'
                                      go_simp
                                      with_reducible rfl
                                    rotate_left
                                    · simp only [Act.put, List.setIfInBounds_toArray, List.set_cons_zero, List.set_cons_succ, i64_w, i32_w]
                                      rfl
                                    refine pure_ (i := 14) (N := some 54) (v := ?_) (a' := ?_) #[true, true, true, true, false, true, false, false, true, true, true, false, true, true, true, false, false, false, false, false, false, false, false, false] rfl rfl (any_of HT_.out (by kernel_rfl)) (fun _ _ _ h => h) (Or.inl ⟨by rfl, ?_⟩) ?_ ?_
                                    rotate_left
                                    · intro w'
                                      go_simp
                                      with_reducible rfl
                                    rotate_left
                                    · simp only [Act.put, List.setIfInBounds_toArray, List.set_cons_zero, List.set_cons_succ, i64_w, i32_w]
                                      rfl
                                    refine pure_ (i := 15) (N := some 55) (v := ?_) (a' := ?_) #[true, true, true, true, false, true, false, false, true, true, true, false, true, true, true, true, false, false, false, false, false, false, false, false] rfl rfl (any_of HT_.out (by kernel_rfl)) (fun _ _ _ h => h) (Or.inl ⟨by rfl, ?_⟩) ?_ ?_
                                    rotate_left
                                    · intro w'
                                      go_simp
                                      with_reducible rfl
                                    rotate_left
                                    · simp only [Act.put, List.setIfInBounds_toArray, List.set_cons_zero, List.set_cons_succ, i64_w, i32_w]
                                      rfl
                                    refine pure_ (i := 16) (N := some 56) (v := ?_) (a' := ?_) #[true, true, true, true, false, true, false, false, true, true, true, false, true, true, true, true, true, false, false, false, false, false, false, false] rfl rfl (any_of HT_.out (by kernel_rfl)) (fun _ _ _ h => h) (Or.inl ⟨by rfl, ?_⟩) ?_ ?_
                                    rotate_left
                                    · intro w'
                                      go_simp
                                      with_reducible rfl
                                    rotate_left
                                    · simp only [Act.put, List.setIfInBounds_toArray, List.set_cons_zero, List.set_cons_succ, i64_w, i32_w]
                                      rfl
                                    refine take_ (i := 4) (N := some 44) (v := ?_) (a' := ?_) #[true, true, true, true, true, true, false, false, true, true, true, false, true, true, true, true, true, false, false, false, false, false, false, false] rfl rfl (take_ofW HT_.out HW_.out (by kernel_rfl)) (fun _ _ _ h => h) (Or.inl ⟨by rfl, ?_⟩) hHeld ?_ ?_
                                    rotate_left
                                    · rintro w' ⟨s0, s1, s2, s3, s4⟩
                                      go_simp
                                      with_reducible rfl
                                    rotate_left
                                    · simp only [Act.put, List.setIfInBounds_toArray, List.set_cons_zero, List.set_cons_succ, i64_w, i32_w]
                                      rfl
                                    refine pure_ (i := 6) (N := some 46) (v := ?_) (a' := ?_) #[true, true, true, true, true, true, true, false, true, true, true, false, true, true, true, true, true, false, false, false, false, false, false, false] rfl rfl (any_of HT_.out (by kernel_rfl)) (fun _ _ _ h => h) (Or.inl ⟨by rfl, ?_⟩) ?_ ?_
                                    rotate_left
                                    · intro w'
                                      go_simp
                                      with_reducible rfl
                                    rotate_left
                                    · simp only [Act.put, List.setIfInBounds_toArray, List.set_cons_zero, List.set_cons_succ, i64_w, i32_w]
                                      rfl
                                    refine take_ (i := 7) (N := some 47) (v := ?_) (a' := ?_) #[true, true, true, true, true, true, true, true, true, true, true, false, true, true, true, true, true, false, false, false, false, false, false, false] rfl rfl (take_ofW HT_.out HW_.out (by kernel_rfl)) (fun _ _ _ h => h) (Or.inl ⟨by rfl, ?_⟩) hHeld ?_ ?_
                                    rotate_left
                                    · rintro w' ⟨s0, s1, s2, s3, s4⟩
                                      go_simp
                                      with_reducible rfl
                                    rotate_left
                                    · simp only [Act.put, List.setIfInBounds_toArray, List.set_cons_zero, List.set_cons_succ, i64_w, i32_w]
                                      rfl
                                    refine take_ (i := 11) (N := some 51) (v := ?_) (a' := ?_) #[true, true, true, true, true, true, true, true, true, true, true, true, true, true, true, true, true, false, false, false, false, false, false, false] rfl rfl (take_ofW HT_.out HW_.out (by kernel_rfl)) (fun _ _ _ h => h) (Or.inl ⟨by rfl, ?_⟩) hHeld ?_ ?_
                                    rotate_left
                                    · rintro w' ⟨s0, s1, s2, s3, s4⟩
                                      go_simp
                                      with_reducible rfl
                                    rotate_left
                                    · simp only [Act.put, List.setIfInBounds_toArray, List.set_cons_zero, List.set_cons_succ, i64_w, i32_w]
                                      rfl
                                    refine take_ (i := 17) (N := some 57) (v := ?_) (a' := ?_) #[true, true, true, true, true, true, true, true, true, true, true, true, true, true, true, true, true, true, false, false, false, false, false, false] rfl rfl (take_ofW HT_.out HW_.out (by kernel_rfl)) (fun _ _ _ h => h) (Or.inl ⟨by rfl, ?_⟩) hHeld ?_ ?_
                                    rotate_left
                                    · rintro w' ⟨s0, s1, s2, s3, s4⟩
                                      go_simp
                                      with_reducible rfl
                                    rotate_left
                                    · simp only [Act.put, List.setIfInBounds_toArray, List.set_cons_zero, List.set_cons_succ, i64_w, i32_w]
                                      rfl
                                    refine pure_ (i := 18) (N := some 58) (v := ?_) (a' := ?_) #[true, true, true, true, true, true, true, true, true, true, true, true, true, true, true, true, true, true, true, false, false, false, false, false] rfl rfl (any_of HT_.out (by kernel_rfl)) (fun _ _ _ h => h) (Or.inl ⟨by rfl, ?_⟩) ?_ ?_
                                    rotate_left
                                    · intro w'
                                      go_simp
                                      with_reducible rfl
                                    rotate_left
                                    · simp only [Act.put, List.setIfInBounds_toArray, List.set_cons_zero, List.set_cons_succ, i64_w, i32_w]
                                      rfl
                                    refine pure_ (i := 19) (N := some 59) (v := ?_) (a' := ?_) #[true, true, true, true, true, true, true, true, true, true, true, true, true, true, true, true, true, true, true, true, false, false, false, false] rfl rfl (any_of HT_.out (by kernel_rfl)) (fun _ _ _ h => h) (Or.inl ⟨by rfl, ?_⟩) ?_ ?_
                                    rotate_left
                                    · intro w'
                                      go_simp
                                      with_reducible rfl
                                    rotate_left
                                    · simp only [Act.put, List.setIfInBounds_toArray, List.set_cons_zero, List.set_cons_succ, i64_w, i32_w]
                                      rfl
                                    refine pure_ (i := 20) (N := some 60) (v := ?_) (a' := ?_) #[true, true, true, true, true, true, true, true, true, true, true, true, true, true, true, true, true, true, true, true, true, false, false, false] rfl rfl (any_of HT_.out (by kernel_rfl)) (fun _ _ _ h => h) (Or.inl ⟨by rfl, ?_⟩) ?_ ?_
                                    rotate_left
                                    · intro w'
                                      go_simp
                                      with_reducible rfl
                                    rotate_left
                                    · simp only [Act.put, List.setIfInBounds_toArray, List.set_cons_zero, List.set_cons_succ, i64_w, i32_w]
                                      rfl
                                    refine take_ (i := 21) (N := some 61) (v := ?_) (a' := ?_) #[true, true, true, true, true, true, true, true, true, true, true, true, true, true, true, true, true, true, true, true, true, true, false, false] rfl rfl (take_ofW HT_.out HW_.out (by kernel_rfl)) (fun _ _ _ h => h) (Or.inl ⟨by rfl, ?_⟩) hHeld ?_ ?_
                                    rotate_left
                                    · rintro w' ⟨s0, s1, s2, s3, s4⟩
                                      go_simp
                                      with_reducible rfl
                                    rotate_left
                                    · simp only [Act.put, List.setIfInBounds_toArray, List.set_cons_zero, List.set_cons_succ, i64_w, i32_w]
                                      rfl
                                    refine pure_ (i := 22) (N := some 62) (v := ?_) (a' := ?_) #[true, true, true, true, true, true, true, true, true, true, true, true, true, true, true, true, true, true, true, true, true, true, true, false] rfl rfl (any_of HT_.out (by kernel_rfl)) (fun _ _ _ h => h) (Or.inl ⟨by rfl, ?_⟩) ?_ ?_
                                    rotate_left
                                    · intro w'
                                      go_simp
                                      with_reducible rfl
                                    rotate_left
                                    · simp only [Act.put, List.setIfInBounds_toArray, List.set_cons_zero, List.set_cons_succ, i64_w, i32_w]
                                      rfl
                                    refine last_ (i := 23) (N := none) #[true, true, true, true, true, true, true, true, true, true, true, true, true, true, true, true, true, true, true, true, true, true, true, true] rfl rfl (one_of HT_.out (by kernel_rfl)) (by decide) (fun K hK => ?_)
                                    refine skip_ (w1 := ?_) (by rfl) rfl ?_ ?_
                                    rotate_left
                                    · go_simp
                                      rfl
                                    refine hK.out _ _ ?_
                                    clear hK K
                                    refine done_ (done_of HT_.out (by kernel_rfl)) ?_
                                    try go_wp2
                                    go_roundg k2
                                    case measure => have := HK1.out; have := HK2.out; omega
                                    case rel => exact ⟨(y207), (wrap64 (x10_2 + 1)), (by first | rfl | (simp; done) | (simp [*]; done)), H', ⟨by have := HK1.out; have := HK2.out; omega⟩, ⟨by (with_reducible repeat (first | apply Kd.R_alloc | apply Kd.R_drewN | apply Kd.R_drew)); exact HQ27.out⟩, ⟨by (with_reducible repeat (first | refine blk_drewN ?_ _ | refine blk_drew ?_ | refine blk_alloc ?_ _)); refine blk_far ?_ (by have h_ := Kd.R_ne HO_8.out BK195.out (by decide); intro e_; exact h_ (by rw [e_]; rfl)) _; (with_reducible repeat (first | refine blk_drewN ?_ _ | refine blk_drew ?_ | refine blk_alloc ?_ _)); exact BK195.out⟩, ⟨by repeat (first | (with_reducible first | exact HB.out | apply below_alloc | apply pw_below_drewN | apply below_drew1 | refine below_set ?_ GB25.out | refine below_set ?_ GE195.out) | exact HB.out)⟩⟩
                                  · rw [if_neg c24] at H
                                    exact absurd H (by simp)
                                · rw [if_neg c23] at H
                                  exact absurd H (by simp)
                              · rw [if_neg c22] at H
                                exact absurd H (by simp)
                            · rw [if_neg c21] at H
                              exact absurd H (by simp)
                        · rw [if_neg c18] at H
                          exact absurd H (by simp)
                      · rw [if_neg c17] at H
                        have c17b0 : decide (x10_2 < ((rd_L4 l1 x9_1).length : Int)) = false := decide_eq_false c17
                        clear c17
                        have H' := Aside0.mk H
                        clear H
                        have p201 : 0 ≤ (x9_1 : Int) := of_decide_eq_true (by first | (with_reducible assumption) | assumption)
                        have q201 : x9_1 < (l1.length : Int) := of_decide_eq_true (by first | (with_reducible assumption) | assumption)
                        obtain ⟨ad201, A201_0, c201_0, e201, hx201_0, hl201_0, hi201_0⟩ := at_L4 HR1.out x9_1 p201 q201
                        cases e201
                        replace hx201_0 := (HB.out.cell (World.block_lt_of_cell? w _ hx201_0)).trans hx201_0
                        have HR201_0 := Aside0.mk hi201_0
                        have HC201_0 := Aside0.mk hl201_0
                        clear hi201_0 hl201_0
                        replace p201 := eq_true p201
                        replace q201 := eq_true q201
                        go_wp2
                        go_roundg k2
                        case measure => have := HK1.out; have := HK2.out; omega
                        case rel => exact ⟨(x8_2), (wrap64 (x9_1 + 1)), (by first | rfl | (simp; done) | (simp [*]; done)), H', ⟨by have := HK1.out; have := HK2.out; omega⟩, ⟨by (with_reducible repeat (first | apply Kd.R_alloc | apply Kd.R_drewN | apply Kd.R_drew)); exact HO_8.out⟩, ⟨by (with_reducible repeat (first | refine blk_drewN ?_ _ | refine blk_drew ?_ | refine blk_alloc ?_ _)); exact BK195.out⟩, ⟨by repeat (first | (with_reducible first | exact HB.out | apply below_alloc | apply pw_below_drewN | apply below_drew1 | refine below_set ?_ GE195.out) | exact HB.out)⟩⟩
                    · rw [if_neg c16] at H
                      exact absurd H (by simp)
                  · rw [if_neg c15] at H
                    exact absurd H (by simp)
            · rw [if_neg c14] at H
              have c14b0 : decide (x9_1 < (l1.length : Int)) = false := decide_eq_false c14
              clear c14
              simp only [Option.some.injEq, Prod.mk.injEq] at H
              obtain ⟨rfl, rfl⟩ := H
              go_wp2
              go_ret2
              exact ⟨_, by first | rfl | (simp [errW_none, errW_some] <;> rfl) | (simp only [← hji5]; first | rfl | (simp [errW_none, errW_some] <;> rfl)) | (simp [*, errW_none, errW_some] <;> rfl), by (with_reducible repeat (first | apply Kd.R_alloc | apply Kd.R_drewN | apply Kd.R_drew)); exact HO_8.out, by repeat (first | (with_reducible first | exact HB.out | apply below_alloc | apply pw_below_drewN | apply below_drew1 | refine below_set ?_ GE195.out) | exact HB.out)⟩
      · rw [if_neg c7] at H
        exact absurd H (by simp)
    · rw [if_neg c6] at H
      exact absurd H (by simp)
  · rw [if_neg c4] at H
    have c4b0 : (t197 == 0) = false := beq_eq_false_iff_ne.mpr c4
    have c4b1 : (t197 != 0) = true := bne_iff_ne.mpr c4
    simp only [Option.some.injEq, Prod.mk.injEq] at H
    obtain ⟨rfl, rfl⟩ := H
    go_enter Try.func17, Try.ntmps17
    go_wp2_with (first | ((with_reducible refine gate_dst (N := 2) rfl ?_); refine box_event ?hg (N := 2) ?hd (cs := #[.int .i64 a0_0, .slice A0_1 l0_1.length c0_1]) (t := 24) ?hr ?_; (case hd => rfl); (case hg => rfl); (case hr => first | (go_simp; done) | (go_simp; rfl)); intro gb195 hg w28 hbox hb; have n0_ := Aside0.mk (below_step (by repeat (first | (with_reducible first | exact HB.out | apply below_alloc | apply pw_below_drewN | apply below_drew1) | exact HB.out)) hb); have n1_ := Aside0.mk (hbox); have n2_ := Aside0.mk ((by rw [hg]; exact (below_size (by repeat (first | (with_reducible first | exact HB.out | apply below_alloc | apply pw_below_drewN | apply below_drew1) | exact HB.out))) : w.heap.size ≤ gb195)); have n3_ := Aside0.mk ((by rw [hg]; exact (below_size (by repeat (first | (with_reducible first | exact HB.out | apply below_alloc | apply pw_below_drewN | apply below_drew1) | exact HB.out))) : w.heap.size ≤ gb195)); clear HB; have HB := n0_; have BK195 := n1_; have GW195 := n2_; have GE195 := n3_; clear n0_ n1_ n2_ n3_; clear hb hbox hg; have hcz29_0 : w28.cell? ⟨gb195, 0, none⟩ = some (.int .i64 a0_0) := (blk_cell BK195.out 0).trans rfl; have hcz29_1 : w28.cell? ⟨gb195, 1, none⟩ = some (.slice A0_1 l0_1.length c0_1) := (blk_cell BK195.out 1).trans rfl; have hfz29_0 := blk_frozen BK195.out 0; have hfz29_1 := blk_frozen BK195.out 1) | ((with_reducible refine gate_callee (f := 16) rfl ?_); refine goesL_ (some 14) rfl rfl Try.func16 (by kernel_rfl) rfl #[.agg #[.int .i64 a0_0, .slice A0_1 l0_1.length c0_1], .slice A1 l1.length c1] rfl (by (try simp only [List.map_toArray, List.map_cons, List.map_nil]); first | done | rfl | (simp only [List.length_drop, List.length_take]; rfl)) ?_; (with_reducible refine (tangramref11_Check.calls k a0_0 _ _ l0_1 _ _ l1 t196 t197 _ ?side1 ?side2 ?side3 ?side4 A3.out).mono ?_); (case side1 => repeat (first | exact (Kd.C_below HR0_1.out HB.out) | (with_reducible refine Kd.C_alloc ?_ _) | (with_reducible refine Kd.C_drewN ?_ _) | (with_reducible refine Kd.C_drew ?_))); (case side2 => exact HC0_1.out); (case side3 => repeat (first | exact (Kd.C_below HR1.out HB.out) | (with_reducible refine Kd.C_alloc ?_ _) | (with_reducible refine Kd.C_drewN ?_ _) | (with_reducible refine Kd.C_drew ?_))); (case side4 => exact HC1.out); rintro e w30 ⟨rfl, hb⟩; refine ⟨_, rfl, ?_⟩; have n0_ := Aside0.mk (blk_below (g := gb195) (o := .cells #[.int .i64 a0_0, .slice A0_1 l0_1.length c0_1] 24 (0, 0)) (by (with_reducible repeat (first | refine blk_drewN ?_ _ | refine blk_drew ?_ | refine blk_alloc ?_ _)); exact BK195.out) hb); have n1_ := Aside0.mk (below_step (by repeat (first | (with_reducible first | exact HB.out | apply below_alloc | apply pw_below_drewN | apply below_drew1 | refine below_set ?_ GE195.out) | exact HB.out)) hb); clear BK195; clear HB; have BK195 := n0_; have HB := n1_; clear n0_ n1_; (try clear hb); (try clear hb2); (try clear hk); (try clear hi)))
    go_ret2
    exact ⟨_, by first | rfl | (simp [errW_none, errW_some] <;> rfl) | (simp [*, errW_none, errW_some] <;> rfl), by first | exact Kd.R_nil _ _ _ _ _ | exact Kd.N_nil _ _ _ _ _ | exact Kd.V_nil _ _ _ _ _ | exact Kd.Q_nil _ _ _ _ _ | exact Kd.S_nil _ _ _ _ _, by repeat (first | (with_reducible first | exact HB.out | apply below_alloc | apply pw_below_drewN | apply below_drew1 | refine below_set ?_ GE195.out) | exact HB.out)⟩

end Go.Proofs.Ytkkhhbegeboonaa.GAll
/- DERIVED. The document's Check, Next, Around and the program's: they answer the same. -/






namespace Go.Proofs.Ytkkhhbegeboonaa.Rot
open Go.RowKit Go.Proofs.YtkkhhbegeboonaaW.PrintWords Go.Proofs.YtkkhhbegeboonaaW.PrintLast Go.Proofs.YtkkhhbegeboonaaW.PrintMore Go.Proofs.Ytkkhhbegeboonaa.GAll Go.Proofs.Ytkkhhbegeboonaa.Mem
set_option linter.unusedVariables false
set_option linter.unusedSimpArgs false
theorem xor_one (q : Nat) : q ^^^ 1 = if q % 2 = 0 then q + 1 else q - 1 := by
  have h1 : (q ^^^ 1) / 2 = q / 2 := by rw [Nat.xor_div_two]; simp
  have h2 : (q ^^^ 1) % 2 = (q + 1) % 2 := by
    have h := Nat.xor_mod_two_pow (a := q) (b := 1) (n := 1)
    rw [show 2 ^ 1 = 2 from rfl] at h
    rw [h]
    rcases Nat.mod_two_eq_zero_or_one q with e | e <;> rw [e] <;> simp <;> omega
  split <;> omega
theorem twin_nat {q : Nat} (h : q ≤ 9000000) : twin (q : Int) = ((if q % 2 = 0 then q + 1 else q - 1 : Nat) : Int) := by
  unfold twin Go.bits
  have e : (BitVec.ofInt IntKind.i64.bits (q : Int) ^^^ BitVec.ofInt IntKind.i64.bits 1).toNat = q ^^^ 1 := by
    rw [BitVec.toNat_xor, BitVec.toNat_ofInt, BitVec.toNat_ofInt]
    have hb : IntKind.i64.bits = 64 := rfl
    rw [hb]
    have e1 : ((q : Int) % (2 ^ 64 : Nat)).toNat = q := by omega
    have e2 : ((1 : Int) % (2 ^ 64 : Nat)).toNat = 1 := by omega
    rw [e1, e2]
  simp only [e]
  rw [xor_one, IntWalk.i64_in _ (by split <;> omega)]
theorem twin_in {m q : Nat} (hm : m ≤ 4194304) (h : q < 2 * m) : 0 ≤ twin (q : Int) ∧ twin (q : Int) < ((2 * m : Nat) : Int) := by
  rw [twin_nat (by omega)]
  split <;> omega
theorem leaves_f {n : Int} {l : List Ed} (hl : l.length ≤ 4194304) (h v : Int) : tangramref11_leaves.f n l h v = some (leaves (frs l) v h) := by
  have hfl := frs_length l
  unfold tangramref11_leaves.f leaves
  rw [IntWalk.wrap64_in _ (by omega)]
  by_cases c1 : h ≥ 0
  · rw [if_pos c1, decide_eq_true c1, Bool.true_and]
    by_cases c2 : h < 2 * (l.length : Int)
    · obtain ⟨q, rfl⟩ := Int.eq_ofNat_of_zero_le c1
      rw [if_pos c2, from_f hl (by omega), decide_eq_true (by omega), Bool.true_and, Option.bind_some, Int.toNat_natCast]
    · rw [if_neg c2, decide_eq_false (by omega), Bool.false_and]
  · rw [if_neg c1, decide_eq_false c1, Bool.false_and]
theorem stands_ev {row : List Int} (hb : row.length ≤ 9000000000000000000) (x : Int) {j : Nat} (hj : j ≤ row.length) : Ev (fun k => tangramref11_stands.f k row (j : Int) x) (decide (x ∈ row.take j)) := by
  have loop : ∀ (d i : Nat), i + d = j → x ∉ row.take i → Ev (fun k => tangramref11_stands.l0 k row (j : Int) x (i : Int)) (decide (x ∈ row.take j)) := by
    intro d
    induction d with
    | zero =>
      intro i hi hx
      obtain rfl : i = j := by omega
      rw [decide_eq_false hx]
      refine Ev.step (f := fun _ => some false) (fun k => ?_) (Ev.now _)
      simp only [tangramref11_stands.l0]
      rw [if_neg (by omega)]
    | succ d ih =>
      intro i hi hx
      have hil : i < row.length := by omega
      by_cases c : gi row i = x
      · rw [decide_eq_true (by
          rw [← c, gi_get hil, List.mem_iff_getElem]
          exact ⟨i, by rw [List.length_take]; omega, by simp⟩)]
        refine Ev.step (f := fun _ => some true) (fun k => ?_) (Ev.now _)
        simp only [tangramref11_stands.l0]
        rw [if_pos (by omega), if_pos (by omega), if_pos (by omega), gi_rd, if_pos c]
      · refine Ev.step (fun k => ?_) (ih (i + 1) (by omega) (by
          rw [List.take_succ_eq_append_getElem hil, List.mem_append, List.mem_singleton, ← gi_get hil]
          rintro (h | h)
          · exact hx h
          · exact c h.symm))
        simp only [tangramref11_stands.l0]
        rw [if_pos (by omega), if_pos (by omega), if_pos (by omega), gi_rd, if_neg c, w1 (by omega)]
  exact loop j 0 (by omega) (by simp)
theorem degree_ev {n : Int} {l : List Ed} (hl : l.length ≤ 4194304) (v : Int) : Ev (fun k => tangramref11_degree.f k n l v) ((cnt (frs l) (2 * l.length) v : Nat) : Int) := by
  have loop : ∀ (d i : Nat), i + d = 2 * l.length → Ev (fun k => tangramref11_degree.l0 k v ((cnt (frs l) i v : Nat) : Int) (i : Int) n l) ((cnt (frs l) (2 * l.length) v : Nat) : Int) := by
    intro d
    induction d with
    | zero =>
      intro i hi
      obtain rfl : i = 2 * l.length := by omega
      refine Ev.step (f := fun _ => some _) (fun k => ?_) (Ev.now _)
      simp only [tangramref11_degree.l0]
      rw [IntWalk.wrap64_in _ (by omega), if_neg (by omega)]
    | succ d ih =>
      intro i hi
      have hc := cnt_le (frs l) i v
      refine Ev.step (fun k => ?_) (ih (i + 1) (by omega))
      simp only [tangramref11_degree.l0]
      rw [IntWalk.wrap64_in (2 * (l.length : Int)) (by omega), if_pos (by omega), from_f hl (by omega), Option.bind_some, cnt_succ, w1 (by omega), w1 (by omega)]
      by_cases c : gi (frs l) i = v
      · rw [if_pos c, if_pos c]
      · rw [if_neg c, if_neg c]; rfl
  exact loop (2 * l.length) 0 (by omega)
section
variable {n : Nat} {l : List Ed} {r : List (List Int)} {ds : List Int}
theorem ref_rows (hg : PureV.Good (n : Int) l) (hr : Small r) (hrl : r.length = n) (hd : ∀ v, v < n → gi ds v = ((leaving (frs l) v).length : Int)) (d : Nat) : ∀ (v : Nat) (S : List Bool), v + d = n → S.length = (frs l).length → (∀ q : Nat, gb S q = true → ∃ u, u < v ∧ leaves (frs l) u (q : Int) = true) →
    Ev (fun k => tangramref11_Check.l0 k r (v : Int) (n : Int) l) (rows (frs l) ds v (r.drop v) S) := by
  have hll := hg.2.2.1
  have hn := hg.2.1
  have hfl := frs_length l
  induction d with
  | zero =>
    intro v S hv hS hm
    rw [List.drop_of_length_le (by omega)]
    refine Ev.step (f := fun _ => some (0, 0)) (fun k => ?_) (Ev.now _)
    simp only [tangramref11_Check.l0]
    rw [if_neg (by omega)]
  | succ d ih =>
    intro v S hv hS hm
    have hvr : v < r.length := by omega
    have hb := hr.at hvr
    rw [drop_row hvr, rows_cons]
    have row : ∀ (e j : Nat) (T : List Bool), j + e = (gl r v).length → T.length = (frs l).length → (∀ i, i < j → leaves (frs l) v (gi (gl r v) i) = true) → ((gl r v).take j).Nodup →
        (∀ q : Nat, gb T q = true → (∃ u, u < v ∧ leaves (frs l) u (q : Int) = true) ∨ (q : Int) ∈ (gl r v).take j) → (∀ q : Nat, (q : Int) ∈ (gl r v).take j → gb T q = true) →
        Ev (fun k => tangramref11_Check.l1 k r (v : Int) (j : Int) (n : Int) l) (after (frs l) ds v (gl r v) (r.drop (v + 1)) (elems (frs l) v ((gl r v).drop j) T)) := by
      intro e
      induction e with
      | zero =>
        intro j T hj hT hlv hnd hm1 hm2
        obtain rfl : j = (gl r v).length := by omega
        rw [List.take_length] at hnd hm1 hm2
        have hlv2 : ∀ x ∈ gl r v, leaves (frs l) v x = true := by
          intro x hx
          obtain ⟨i, hi, rfl⟩ := mem_gi hx
          exact hlv i hi
        have hle := nodup_subset (gl r v) (leaving (frs l) v) hnd (fun x hx => mem_leaving.2 (hlv2 x hx))
        have hdv := hd v (by omega)
        rw [List.drop_length, show elems (frs l) v [] T = .ok T from rfl, after_ok]
        refine Ev.step (f := fun k => (tangramref11_degree.f k (n : Int) l (v : Int)).bind fun t187 => if ((gl r v).length : Int) < t187 then some ((v : Int), 113) else tangramref11_Check.l0 k r ((v + 1 : Nat) : Int) (n : Int) l) (fun k => ?_) (Ev.bind (degree_ev hll v) ?_)
        · simp only [tangramref11_Check.l1]
          rw [if_pos (by omega), if_pos (by omega), rd_L, if_neg (by omega), w1 (by omega)]
        · have hc := leaving_cnt (frs l) v
          rw [hfl] at hc
          rw [← hc, hdv]
          by_cases c : ((gl r v).length : Int) = ((leaving (frs l) v).length : Int)
          · rw [if_pos c]
            refine Ev.congr (fun k => if_neg (by omega)) (ih (v + 1) T (by omega) hT (fun q hq => ?_))
            rcases hm1 q hq with ⟨u, h1, h2⟩ | h
            · exact ⟨u, by omega, h2⟩
            · exact ⟨v, by omega, hlv2 _ h⟩
          · rw [if_neg c]
            exact Ev.congr (fun k => if_pos (by omega)) (Ev.now _)
      | succ e ih2 =>
        intro j T hj hT hlv hnd hm1 hm2
        have hjl : j < (gl r v).length := by omega
        rw [drop_int hjl]
        obtain ⟨h, hh⟩ : ∃ h, h = gi (gl r v) j := ⟨_, rfl⟩
        have hstep : ∀ k, tangramref11_Check.l1 (k + 1) r (v : Int) (j : Int) (n : Int) l = if leaves (frs l) v h = true then ((tangramref11_stands.f k (gl r v) (j : Int) h).bind fun t194 => if t194 = true then some ((v : Int), 112) else tangramref11_Check.l1 k r (v : Int) ((j + 1 : Nat) : Int) (n : Int) l) else some ((v : Int), 111) := by
          intro k
          simp only [tangramref11_Check.l1]
          rw [if_pos (by omega), if_pos (by omega), rd_L, if_pos (by omega), if_pos (by omega), gi_rd, ← hh, leaves_f hll, Option.bind_some, w1 (by omega)]
        rw [← hh]
        cases hlf : leaves (frs l) v h with
        | false =>
          rw [elems_cons_no hlf]
          refine Ev.step (f := fun _ => some ((v : Int), 111)) (fun k => ?_) (Ev.now _)
          rw [hstep k, if_neg (by rw [hlf]; decide)]
        | true =>
          obtain ⟨l1, l2, l3⟩ := leaves_iff.1 hlf
          obtain ⟨q, hq⟩ := Int.eq_ofNat_of_zero_le l1
          have hst := stands_ev (row := gl r v) (by omega) h (j := j) (by omega)
          have hiff : gb T h.toNat = true ↔ h ∈ (gl r v).take j := by
            constructor
            · intro g
              rcases hm1 _ g with ⟨u, h1, h2⟩ | g2
              · obtain ⟨_, _, h3⟩ := leaves_iff.1 h2
                rw [Int.toNat_natCast] at h3
                omega
              · rw [hq, Int.toNat_natCast] at g2
                rw [hq]; exact g2
            · intro g
              exact hm2 _ (by rw [hq, Int.toNat_natCast]; rw [hq] at g; exact g)
          refine Ev.step (f := fun k => (tangramref11_stands.f k (gl r v) (j : Int) h).bind fun t194 => if t194 = true then some ((v : Int), 112) else tangramref11_Check.l1 k r (v : Int) ((j + 1 : Nat) : Int) (n : Int) l) (fun k => (hstep k).trans (if_pos hlf)) (Ev.bind hst ?_)
          cases hs : gb T h.toNat with
          | true =>
            rw [elems_cons_twice hlf hs]
            exact Ev.congr (fun k => if_pos (decide_eq_true (hiff.1 hs))) (Ev.now _)
          | false =>
            have hno : h ∉ (gl r v).take j := fun g => by rw [hiff.2 g] at hs; cases hs
            rw [elems_cons hlf hs]
            have et : (gl r v).take (j + 1) = (gl r v).take j ++ [h] := by rw [List.take_succ_eq_append_getElem hjl, ← gi_get hjl, hh]
            refine Ev.congr (fun k => if_neg (by simpa using hno)) (ih2 (j + 1) (T.set h.toNat true) (by omega) (by rw [List.length_set]; exact hT) ?_ ?_ ?_ ?_)
            · intro i hi
              rcases Nat.lt_succ_iff_lt_or_eq.1 hi with g | rfl
              · exact hlv i g
              · rw [← hh]; exact hlf
            · rw [et, List.nodup_append]
              refine ⟨hnd, by simp, fun a ha b hb2 => ?_⟩
              rw [List.mem_singleton] at hb2
              rintro rfl
              exact hno (by rw [← hb2]; exact ha)
            · intro p hp
              rw [gb_set] at hp
              rw [et]
              by_cases c : h.toNat = p ∧ p < T.length
              · right
                rw [show (p : Int) = h by omega]
                simp
              · rw [if_neg c] at hp
                rcases hm1 p hp with g | g
                · exact .inl g
                · exact .inr (List.mem_append_left _ g)
            · intro p hp
              rw [et, List.mem_append, List.mem_singleton] at hp
              rw [gb_set]
              by_cases c : h.toNat = p ∧ p < T.length
              · rw [if_pos c]
              · rw [if_neg c]
                rcases hp with g | g
                · exact hm2 p g
                · exact absurd ⟨by omega, by omega⟩ c
    have key := row (gl r v).length 0 S (by omega) hS (fun i hi => by omega) (by simp) (fun q hq => .inl (hm q hq)) (fun q hq => by simp at hq)
    rw [List.drop_zero] at key
    refine Ev.step (fun k => ?_) key
    simp only [tangramref11_Check.l0]
    rw [if_pos (by omega)]
    rfl
end
/-- both checks answer the same -/
theorem both_check (n : Int) (l : List Ed) (r : List (List Int)) (hs : Small r) : ∃ res, Ev (fun k => rot_Check.f k n l r) res ∧ Ev (fun k => tangramref11_Check.f k n l r) res ∧ (res.2 = 0 → res = (0, 0)) ∧ (res.2 = 0 ↔ ∃ N : Nat, n = N ∧ PureV.Good n l ∧ IsRot (frs l) N r) := by
  obtain ⟨res, h1, h2, h3⟩ := check_ev n l r
  refine ⟨res, h1, ?_, h2, h3⟩
  obtain ⟨b, hb, hb2, hg⟩ := PureV.valid n l
  have same : ∀ {q : Int × Int}, Ev (fun k => rot_Check.f k n l r) q → res = q := by
    intro q ⟨K1, e1⟩
    obtain ⟨K2, e2⟩ := h1
    have a := e1 (max K1 K2) (by omega)
    have b := e2 (max K1 K2) (by omega)
    exact Option.some.inj (b.symm.trans a)
  unfold tangramref11_Check.f
  refine Ev.bind hb2 ?_
  cases b with
  | false =>
    rw [same (check_no hb)]
    exact Ev.congr (fun k => if_neg (by decide)) (Ev.now _)
  | true =>
    refine Ev.congr (fun k => if_pos rfl) ?_
    by_cases hl : (r.length : Int) = n
    · refine Ev.congr (fun k => if_pos hl) ?_
      have hG := hg.1 rfl
      obtain ⟨N, rfl⟩ := Int.eq_ofNat_of_zero_le hG.1
      obtain ⟨ds, hd, g1, g2⟩ := degrees_ev hG hb
      rw [same (check_all hG hb (by omega) hd g1)]
      have key := ref_rows hG hs (by omega) g2 N 0 (List.replicate (frs l).length false) (by omega) (by simp) (fun q hq => by rw [gb_none] at hq; cases hq)
      rw [List.drop_zero] at key
      exact key
    · rw [same (check_len hb hl)]
      exact Ev.congr (fun k => if_neg hl) (Ev.now _)
section
variable {n : Nat} {l : List Ed} {r : List (List Int)}
theorem refnext_row {fr : List Int} (h : IsRot fr n r) (hf : fr.length ≤ 8388608) (hn : n ≤ 1048576) {v : Nat} (hv : v < n) (d : Nat) : ∀ (i : Nat) (nx : List Int), i + d = (gl r v).length → nx.length = fr.length →
    (∀ u j, u < n → j < (gl r u).length → (u < v ∨ (u = v ∧ j < i)) → gi nx (gi (gl r u) j).toNat = gi (gl r u) ((j + 1) % (gl r u).length)) →
    ∃ nx', (nx'.length = fr.length ∧ ∀ u j, u < n → j < (gl r u).length → u < v + 1 → gi nx' (gi (gl r u) j).toNat = gi (gl r u) ((j + 1) % (gl r u).length)) ∧
      ∀ res, Ev (fun k => tangramref11_Next.l0 k r nx' ((v + 1 : Nat) : Int)) res → Ev (fun k => tangramref11_Next.l1 k r nx (v : Int) (i : Int)) res := by
  have hlen : (gl r v).length ≤ fr.length := by
    have := nodup_subset (gl r v) (leaving fr v) (h.nodup v hv) (fun x hx => mem_leaving.2 ((h.mem v hv x).1 hx))
    have h2 := cnt_le fr fr.length v
    rw [leaving_cnt] at this
    omega
  have hrl := h.len
  induction d with
  | zero =>
    intro i nx hi hl hp
    refine ⟨nx, ⟨hl, fun u j hu hj huv => hp u j hu hj (by
      rcases Nat.lt_succ_iff_lt_or_eq.1 huv with q | rfl
      · exact .inl q
      · exact .inr ⟨rfl, by omega⟩)⟩, fun res hr => Ev.step (fun k => ?_) hr⟩
    simp only [tangramref11_Next.l1]
    rw [if_pos (by omega), if_pos (by omega), rd_L, if_neg (by omega), PureV.wadd (i := v) (by omega)]
  | succ d ih =>
    intro i nx hi hl hp
    obtain ⟨a1, a2, a3⟩ := h.at hv (show i < (gl r v).length by omega)
    obtain ⟨nx', h1, h2⟩ := ih (i + 1) (nx.set (gi (gl r v) i).toNat (gi (gl r v) ((i + 1) % (gl r v).length))) (by omega) (List.length_set.trans hl) (fun u j hu hj huv => by
      rw [gi_set]
      by_cases e : (gi (gl r v) i).toNat = (gi (gl r u) j).toNat
      · obtain ⟨rfl, rfl⟩ := h.inj hv hu (by omega) hj e
        rw [if_pos ⟨rfl, by omega⟩]
      · rw [if_neg (fun q => e q.1)]
        refine hp u j hu hj ?_
        rcases huv with q | ⟨rfl, q⟩
        · exact .inl q
        · refine .inr ⟨rfl, ?_⟩
          rcases Nat.lt_succ_iff_lt_or_eq.1 q with q | rfl
          · exact q
          · exact absurd rfl e)
    refine ⟨nx', h1, fun res hr => Ev.step (fun k => ?_) (h2 res hr)⟩
    have hm := Nat.mod_lt (i + 1) (show 0 < (gl r v).length by omega)
    simp only [tangramref11_Next.l1]
    rw [if_pos (by omega), if_pos (by omega), rd_L, PureV.wadd (i := i) (by omega), tmod_nat, gi_rd, gi_rd, if_pos (by omega), if_pos (by omega), if_neg (by omega), if_pos (by omega), if_pos (by omega), if_pos (by omega), if_pos (by omega)]
theorem refnext_loop {fr : List Int} (h : IsRot fr n r) (hf : fr.length ≤ 8388608) (hn : n ≤ 1048576) (d : Nat) : ∀ (v : Nat) (nx : List Int), v + d = n → nx.length = fr.length →
    (∀ u j, u < n → j < (gl r u).length → u < v → gi nx (gi (gl r u) j).toNat = gi (gl r u) ((j + 1) % (gl r u).length)) →
    ∃ nx', Ev (fun k => tangramref11_Next.l0 k r nx (v : Int)) (nx', 0) ∧ NextOf r fr.length nx' := by
  have hrl := h.len
  induction d with
  | zero =>
    intro v nx hv hl hp
    refine ⟨nx, Ev.step (f := fun _ => some (nx, 0)) (fun k => ?_) (Ev.now _), hl, fun u hu j hj => hp u j (by omega) hj (by omega)⟩
    simp only [tangramref11_Next.l0]
    rw [if_neg (by omega)]
  | succ d ih =>
    intro v nx hv hl hp
    obtain ⟨nx1, ⟨h1, h2⟩, h3⟩ := refnext_row h hf hn (show v < n by omega) (gl r v).length 0 nx (by omega) hl (fun u j hu hj q => hp u j hu hj (by omega))
    obtain ⟨nx2, h4, h5⟩ := ih (v + 1) nx1 (by omega) h1 (fun u j hu hj q => h2 u j hu hj q)
    refine ⟨nx2, Ev.step (fun k => ?_) (h3 _ h4), h5⟩
    simp only [tangramref11_Next.l0]
    rw [if_pos (by omega)]
    rfl
theorem refnext_ev (hg : PureV.Good (n : Int) l) (hr : IsRot (frs l) n r) (h : Ev (fun k => tangramref11_Check.f k (n : Int) l r) (0, 0)) : ∃ nx, Ev (fun k => tangramref11_Next.f k (n : Int) l r) (nx, 0) ∧ NextOf r (2 * l.length) nx := by
  have h1 := hg.2.1
  have h2 := hg.2.2.1
  have hl := frs_length l
  obtain ⟨nx, e1, e2⟩ := refnext_loop hr (by omega) (by omega) n 0 (List.replicate (2 * l.length) 0) (by omega) (by simp [hl]) (fun u j _ _ q => absurd q (by omega))
  rw [hl] at e2
  refine ⟨nx, ?_, e2⟩
  unfold tangramref11_Next.f
  refine Ev.bind h ?_
  refine Ev.congr (fun k => ?_) e1
  rw [if_pos rfl, IntWalk.wrap64_in _ (by omega), if_pos (by omega), if_pos (by omega), show (2 * (l.length : Int)).toNat = 2 * l.length by omega]
  rfl
theorem next_unique (hg : PureV.Good (n : Int) l) (hr : IsRot (frs l) n r) {a b : List Int} (ha : NextOf r (2 * l.length) a) (hb : NextOf r (2 * l.length) b) : a = b := by
  have hfl := frs_length l
  have hrl := hr.len
  refine gi_ext (by rw [ha.1, hb.1]) fun p hp => ?_
  rw [ha.1] at hp
  obtain ⟨v, j, h1, h2, h3, h4⟩ := hr.place (fun x hx => frs_range hg (by omega)) (show p < (frs l).length by omega)
  have e1 := ha.2 v (by omega) j h3
  have e2 := hb.2 v (by omega) j h3
  rw [h4, Int.toNat_natCast] at e1 e2
  rw [e1, e2]
theorem twin_row (hg : PureV.Good (n : Int) l) (hr : IsRot (frs l) n r) {v j : Nat} (hv : v < n) (hj : j < (gl r v).length) : 0 ≤ twin (gi (gl r v) j) ∧ twin (gi (gl r v) j) < ((2 * l.length : Nat) : Int) := by
  obtain ⟨a, b, c⟩ := hr.at hv hj
  rw [frs_length] at b
  obtain ⟨q, hq⟩ := Int.eq_ofNat_of_zero_le a
  rw [hq] at b ⊢
  exact twin_in hg.2.2.1 (by omega)
theorem row_len {fr : List Int} (h : IsRot fr n r) {v : Nat} (hv : v < n) : (gl r v).length ≤ fr.length := by
  have := nodup_subset (gl r v) (leaving fr v) (h.nodup v hv) (fun x hx => mem_leaving.2 ((h.mem v hv x).1 hx))
  have h2 := cnt_le fr fr.length v
  rw [leaving_cnt] at this
  omega
theorem around_ev (hg : PureV.Good (n : Int) l) (hr : IsRot (frs l) n r) (h : Ev (fun k => rot_Check.f k (n : Int) l r) (0, 0)) : Ev (fun k => rot_Around.f k (n : Int) l r) (aroundOf (frs l) r, 0) := by
  unfold rot_Around.f
  refine Ev.bind h (Ev.congr (fun k => if_pos rfl) (Ev.congr (fun k => if_pos ?_) (Ev.now _)))
  have h1 := hg.2.1
  have h2 := hg.2.2.1
  have hfl := frs_length l
  have hrl := hr.len
  unfold rot_Around.fit
  rw [Bool.and_eq_true, Bool.and_eq_true, List.all_eq_true, decide_eq_true_eq, decide_eq_true_eq]
  refine ⟨h2, by omega, fun row hrow => ?_⟩
  obtain ⟨v, hv, rfl⟩ := List.getElem_of_mem hrow
  rw [← gl_get hv]
  have hl := row_len hr (show v < n by omega)
  rw [Bool.and_eq_true, List.all_eq_true, decide_eq_true_eq]
  refine ⟨by omega, fun x hx => ?_⟩
  obtain ⟨j, hj, rfl⟩ := mem_gi hx
  rw [Bool.and_eq_true, decide_eq_true_eq, decide_eq_true_eq]
  exact twin_row hg hr (by omega) hj
theorem refaround_ev (hg : PureV.Good (n : Int) l) (hr : IsRot (frs l) n r) (h : Ev (fun k => tangramref11_Check.f k (n : Int) l r) (0, 0)) : Ev (fun k => tangramref11_Around.f k (n : Int) l r) (aroundOf (frs l) r, 0) := by
  have h1 := hg.2.1
  have h2 := hg.2.2.1
  have hfl := frs_length l
  have hrl := hr.len
  have loop : ∀ (d v : Nat), v + d = n → Ev (fun k => tangramref11_Around.l0 k r ((aroundOf (frs l) r).take v) (v : Int) (n : Int) l) (aroundOf (frs l) r, 0) := by
    intro d
    induction d with
    | zero =>
      intro v hv
      refine Ev.step (f := fun _ => some (aroundOf (frs l) r, 0)) (fun k => ?_) (Ev.now _)
      simp only [tangramref11_Around.l0]
      rw [if_neg (by omega), List.take_of_length_le (by rw [aroundOf_length]; omega)]
    | succ d ih =>
      intro v hv
      have hvr : v < r.length := by omega
      have hI := ih (v + 1) (by omega)
      have hal : v < (aroundOf (frs l) r).length := by rw [aroundOf_length]; exact hvr
      rw [List.take_succ_eq_append_getElem hal, ← gl_get hal] at hI
      have hlen : ((aroundOf (frs l) r).take v).length = v := by rw [List.length_take, aroundOf_length]; omega
      obtain ⟨X, hX⟩ : ∃ X, X = (aroundOf (frs l) r).take v := ⟨_, rfl⟩
      rw [← hX] at hI hlen ⊢
      have hrow := row_len hr (show v < n by omega)
      have hal2 : (gl (aroundOf (frs l) r) v).length = (gl r v).length := by rw [aroundOf_row hvr, List.length_map]
      have row : ∀ (e j : Nat), j + e = (gl r v).length → Ev (fun k => tangramref11_Around.l1 k r X (v : Int) ((gl (aroundOf (frs l) r) v).take j) (j : Int) (n : Int) l) (aroundOf (frs l) r, 0) := by
        intro e
        induction e with
        | zero =>
          intro j hj
          refine Ev.step (fun k => ?_) hI
          simp only [tangramref11_Around.l1]
          rw [if_pos (by omega), if_pos (by omega), rd_L, if_neg (by omega), if_pos (by omega), w1 (by omega), List.take_of_length_le (by omega)]
        | succ e ih2 =>
          intro j hj
          have hjl : j < (gl r v).length := by omega
          obtain ⟨t1, t2⟩ := twin_row hg hr (show v < n by omega) hjl
          refine Ev.step (fun k => ?_) (ih2 (j + 1) (by omega))
          have hto : tangramref11_To.f (n : Int) l (gi (gl r v) j) = some (gi (gl (aroundOf (frs l) r) v) j) := by
            unfold tangramref11_To.f
            rw [aroundOf_at hvr hjl]
            show (tangramref11_From.f (n : Int) l (twin (gi (gl r v) j))).bind _ = _
            obtain ⟨q, hq⟩ := Int.eq_ofNat_of_zero_le t1
            rw [hq, from_f h2 (by omega), Option.bind_some, Int.toNat_natCast]
          simp only [tangramref11_Around.l1]
          rw [if_pos (by omega), if_pos (by omega), rd_L, if_pos (by omega), if_pos (by omega), gi_rd, hto, Option.bind_some, if_pos (by rw [List.length_take]; omega), w1 (by omega), List.take_succ_eq_append_getElem (by omega), ← gi_get (by omega)]
      refine Ev.step (fun k => ?_) (row (gl r v).length 0 (by omega))
      simp only [tangramref11_Around.l0]
      rw [if_pos (by omega)]
      rfl
  unfold tangramref11_Around.f
  exact Ev.bind h (Ev.congr (fun k => if_pos rfl) (loop n 0 (by omega)))
end
theorem around_no {n : Int} {l : List Ed} {r : List (List Int)} {res : Int × Int} (h : Ev (fun k => rot_Check.f k n l r) res) (h0 : res.2 ≠ 0) : Ev (fun k => rot_Around.f k n l r) ([], res.2) := by
  unfold rot_Around.f
  exact Ev.bind h (Ev.congr (fun k => if_neg h0) (Ev.now _))
theorem refaround_no {n : Int} {l : List Ed} {r : List (List Int)} {res : Int × Int} (h : Ev (fun k => tangramref11_Check.f k n l r) res) (h0 : res.2 ≠ 0) : Ev (fun k => tangramref11_Around.f k n l r) ([], res.2) := by
  unfold tangramref11_Around.f
  exact Ev.bind h (Ev.congr (fun k => if_neg h0) (Ev.now _))
theorem refnext_no {n : Int} {l : List Ed} {r : List (List Int)} {res : Int × Int} (h : Ev (fun k => tangramref11_Check.f k n l r) res) (h0 : res.2 ≠ 0) : Ev (fun k => tangramref11_Next.f k n l r) ([], res.2) := by
  unfold tangramref11_Next.f
  exact Ev.bind h (Ev.congr (fun k => if_neg h0) (Ev.now _))
theorem small_nil : Small [] := ⟨by simp, fun l hl => by cases hl⟩
theorem around_small {n : Nat} {l : List Ed} {r : List (List Int)} (hg : PureV.Good (n : Int) l) (hr : IsRot (frs l) n r) : Small (aroundOf (frs l) r) := by
  have h1 := hg.2.1
  have h2 := hg.2.2.1
  have hfl := frs_length l
  have hrl := hr.len
  refine ⟨by rw [aroundOf_length]; omega, fun x hx => ?_⟩
  unfold aroundOf at hx
  obtain ⟨row, hrow, rfl⟩ := List.mem_map.1 hx
  obtain ⟨v, hv, rfl⟩ := List.getElem_of_mem hrow
  have := row_len hr (show v < n by omega)
  rw [gl_get hv] at this
  rw [List.length_map]; omega
end Go.Proofs.Ytkkhhbegeboonaa.Rot
/- DERIVED. The law RotChecks, walked. -/



namespace Go.Proofs.Ytkkhhbegeboonaa.Rot
open Go.RowKit Go.Proofs.YtkkhhbegeboonaaW.PrintWords Go.Proofs.YtkkhhbegeboonaaW.PrintLast Go.Proofs.YtkkhhbegeboonaaW.PrintMore Go.Proofs.Ytkkhhbegeboonaa.GAll Go.Proofs.Ytkkhhbegeboonaa.Mem
set_option linter.unusedVariables false
set_option linter.unusedSimpArgs false
set_option maxHeartbeats 2000000 in
theorem checks_walk (k : Nat) (n : Int) (A : Option Addr) (c : Nat) (l : List Ed) (A1 : Option Addr) (c1 : Nat) (r : List (List Int)) (w : World) (hr : Kd.C k59 w A l.length l) (hc : l.length ≤ c) (hr1 : Kd.C (Kd.slice 3 (Kd.int .i64)) w A1 r.length r) (hc1 : r.length ≤ c1)
    (v0 e0 : Int) (nx : List Int) (ar : List (List Int)) (h1 : rot_Check.f k n l r = some (v0, e0)) (h2 : tangramref11_Check.f k n l r = some (v0, e0)) (h3 : rot_Next.f k n l r = some (nx, e0)) (h4 : tangramref11_Next.f k n l r = some (nx, e0)) (h5 : rot_Around.f k n l r = some (ar, e0)) (h6 : tangramref11_Around.f k n l r = some (ar, e0))
    (h7 : tangramref11_Alike.f k nx nx = some true) (h8 : tangramref11_Equal.f k ar ar = some true) :
    Calls Try.prog 4 #[.agg #[.int .i64 n, .slice A l.length c], .slice A1 r.length c1] w fun e w' => e = .returned (.bool true) ∧ Below w.heap.size w w' := by
  have HX := Aside0.mk (heap_last w (.cells #[.int .i64 n, .slice A l.length c] 24 (0, 0)))
  have HB : Aside0 (Below w.heap.size w (w.alloc (.cells #[.int .i64 n, .slice A l.length c] 24 (0, 0)))) := ⟨(Below.refl _ _).alloc (Nat.le_refl _) _⟩
  have HR := Aside0.mk hr
  have HR1 := Aside0.mk hr1
  have H1 := Aside0.mk h1
  have H2 := Aside0.mk h2
  have H3 := Aside0.mk h3
  have H4 := Aside0.mk h4
  have H5 := Aside0.mk h5
  have H6 := Aside0.mk h6
  have H7 := Aside0.mk h7
  have H8 := Aside0.mk h8
  have HCC := Aside0.mk hc
  have HCC1 := Aside0.mk hc1
  clear hr hr1 h1 h2 h3 h4 h5 h6 h7 h8 hc hc1
  go_enter Try.func4, Try.ntmps4
  go_wp2_with fail
  refine (tangramlaw11_fixed.calls true _ rfl).mono ?_
  rintro e w1 ⟨rfl, hb⟩
  have HB1 := Aside0.mk (HB.out.trans (hb.mono HB.out.size))
  have HX1 := Aside0.mk ((hb.block _ (lt_of HX.out)).trans HX.out)
  clear hb HB HX
  first | clear x0 x1 | skip
  have x0 : w1.cell? ⟨w.heap.size, 0, none⟩ = some (.int .i64 n) := heap_cell HX1.out rfl
  have x1 : w1.cell? ⟨w.heap.size, 1, none⟩ = some (.slice A l.length c) := heap_cell HX1.out rfl
  go_wp2_with fail
  refine (rot_Check.calls k n A c l A1 c1 r v0 e0 w1 (Kd.C_below HR.out HB1.out) HCC.out (Kd.C_below HR1.out HB1.out) HCC1.out H1.out).mono ?_
  rintro e w2 ⟨rfl, hb⟩
  have HB2 := Aside0.mk (HB1.out.trans (hb.mono HB1.out.size))
  have HX2 := Aside0.mk ((hb.block _ (lt_of HX1.out)).trans HX1.out)
  clear hb HB1 HX1
  first | clear x0 x1 | skip
  have x0 : w2.cell? ⟨w.heap.size, 0, none⟩ = some (.int .i64 n) := heap_cell HX2.out rfl
  have x1 : w2.cell? ⟨w.heap.size, 1, none⟩ = some (.slice A l.length c) := heap_cell HX2.out rfl
  go_wp2_with fail
  refine (tangramref11_Check.calls k n A c l A1 c1 r v0 e0 w2 (Kd.C_below HR.out HB2.out) HCC.out (Kd.C_below HR1.out HB2.out) HCC1.out H2.out).mono ?_
  rintro e w3 ⟨rfl, hb⟩
  have HB3 := Aside0.mk (HB2.out.trans (hb.mono HB2.out.size))
  have HX3 := Aside0.mk ((hb.block _ (lt_of HX2.out)).trans HX2.out)
  clear hb HB2 HX2
  first | clear x0 x1 | skip
  have x0 : w3.cell? ⟨w.heap.size, 0, none⟩ = some (.int .i64 n) := heap_cell HX3.out rfl
  have x1 : w3.cell? ⟨w.heap.size, 1, none⟩ = some (.slice A l.length c) := heap_cell HX3.out rfl
  go_wp2_with fail
  refine (rot_Next.calls k n A c l A1 c1 r nx e0 w3 (Kd.C_below HR.out HB3.out) HCC.out (Kd.C_below HR1.out HB3.out) HCC1.out H3.out).mono ?_
  rintro e w4 ⟨v4, rfl, hR, hb⟩
  have HB4 := Aside0.mk (HB3.out.trans (hb.mono HB3.out.size))
  have HX4 := Aside0.mk ((hb.block _ (lt_of HX3.out)).trans HX3.out)
  clear hb HB3 HX3
  first | clear x0 x1 | skip
  have x0 : w4.cell? ⟨w.heap.size, 0, none⟩ = some (.int .i64 n) := heap_cell HX4.out rfl
  have x1 : w4.cell? ⟨w.heap.size, 1, none⟩ = some (.slice A l.length c) := heap_cell HX4.out rfl
  obtain ⟨A4, c4, rfl, hcc, hC⟩ := Kd.R_reads hR
  have HC4 := Aside0.mk hcc
  have HN := Aside0.mk hC
  clear hR hC hcc
  go_wp2_with fail
  refine (tangramref11_Next.calls k n A c l A1 c1 r nx e0 w4 (Kd.C_below HR.out HB4.out) HCC.out (Kd.C_below HR1.out HB4.out) HCC1.out H4.out).mono ?_
  rintro e w5 ⟨v5, rfl, hR, hb⟩
  have HN5 := Aside0.mk (Kd.C_below HN.out hb)
  have HB5 := Aside0.mk (HB4.out.trans (hb.mono HB4.out.size))
  have HX5 := Aside0.mk ((hb.block _ (lt_of HX4.out)).trans HX4.out)
  clear hb HB4 HX4
  first | clear x0 x1 | skip
  have x0 : w5.cell? ⟨w.heap.size, 0, none⟩ = some (.int .i64 n) := heap_cell HX5.out rfl
  have x1 : w5.cell? ⟨w.heap.size, 1, none⟩ = some (.slice A l.length c) := heap_cell HX5.out rfl
  obtain ⟨A5, c5, rfl, hcc, hC⟩ := Kd.R_reads hR
  have HC5 := Aside0.mk hcc
  have HM5 := Aside0.mk hC
  clear hR hC hcc HN
  go_wp2_with fail
  refine (rot_Around.calls k n A c l A1 c1 r ar e0 w5 (Kd.C_below HR.out HB5.out) HCC.out (Kd.C_below HR1.out HB5.out) HCC1.out H5.out).mono ?_
  rintro e w6 ⟨v6, rfl, hR, hb⟩
  have HN6 := Aside0.mk (Kd.C_below HN5.out hb)
  have HM6 := Aside0.mk (Kd.C_below HM5.out hb)
  have HB6 := Aside0.mk (HB5.out.trans (hb.mono HB5.out.size))
  have HX6 := Aside0.mk ((hb.block _ (lt_of HX5.out)).trans HX5.out)
  clear hb HB5 HX5
  first | clear x0 x1 | skip
  have x0 : w6.cell? ⟨w.heap.size, 0, none⟩ = some (.int .i64 n) := heap_cell HX6.out rfl
  have x1 : w6.cell? ⟨w.heap.size, 1, none⟩ = some (.slice A l.length c) := heap_cell HX6.out rfl
  obtain ⟨A6, c6, rfl, hcc, hC⟩ := Kd.S_reads hR
  have HC6 := Aside0.mk hcc
  have HA6 := Aside0.mk hC
  clear hR hC hcc HN5 HM5
  go_wp2_with fail
  refine (tangramref11_Around.calls k n A c l A1 c1 r ar e0 w6 (Kd.C_below HR.out HB6.out) HCC.out (Kd.C_below HR1.out HB6.out) HCC1.out H6.out).mono ?_
  rintro e w7 ⟨v7, rfl, hR, hb⟩
  have HN7 := Aside0.mk (Kd.C_below HN6.out hb)
  have HM7 := Aside0.mk (Kd.C_below HM6.out hb)
  have HA7 := Aside0.mk (Kd.C_below HA6.out hb)
  have HB7 := Aside0.mk (HB6.out.trans (hb.mono HB6.out.size))
  clear hb x0 x1
  obtain ⟨A7, c7, rfl, hcc, hC⟩ := Kd.S_reads hR
  have HC7 := Aside0.mk hcc
  have HE7 := Aside0.mk hC
  clear hR hC hcc HN6 HM6 HA6
  go_wp2_with fail
  refine (tangramref11_Alike.calls k A4 c4 nx A5 c5 nx true w7 HN7.out HC4.out HM7.out HC5.out H7.out).mono ?_
  rintro e w8 ⟨rfl, hd⟩
  have hb := hd.below
  have HA8 := Aside0.mk (Kd.C_below HA7.out hb)
  have HE8 := Aside0.mk (Kd.C_below HE7.out hb)
  have HB8 := Aside0.mk (HB7.out.trans (hb.mono HB7.out.size))
  clear hb hd
  go_wp2_with fail
  refine (tangramref11_Equal.calls k A6 c6 ar A7 c7 ar true w8 HA8.out HC6.out HE8.out HC7.out H8.out).mono ?_
  rintro e w9 ⟨rfl, hd⟩
  have HB9 := Aside0.mk (HB8.out.trans (hd.below.mono HB8.out.size))
  clear hd
  go_wp2_with fail
  go_ret
  exact ⟨rfl, HB9.out⟩
theorem checks_rounds (n : Int) (l : List Ed) (r : List (List Int)) (hs : Small r) : ∃ k v0 e0 nx ar, rot_Check.f k n l r = some (v0, e0) ∧ tangramref11_Check.f k n l r = some (v0, e0) ∧ rot_Next.f k n l r = some (nx, e0) ∧ tangramref11_Next.f k n l r = some (nx, e0) ∧ rot_Around.f k n l r = some (ar, e0) ∧ tangramref11_Around.f k n l r = some (ar, e0) ∧ tangramref11_Alike.f k nx nx = some true ∧ tangramref11_Equal.f k ar ar = some true := by
  obtain ⟨res, h1, h2, h3, h4⟩ := both_check n l r hs
  have fin : ∀ {nx : List Int} {ar : List (List Int)}, Ev (fun k => rot_Next.f k n l r) (nx, res.2) → Ev (fun k => tangramref11_Next.f k n l r) (nx, res.2) → Ev (fun k => rot_Around.f k n l r) (ar, res.2) → Ev (fun k => tangramref11_Around.f k n l r) (ar, res.2) → nx.length ≤ 9223372036854775807 → Small ar → ∃ k v0 e0 nx ar, rot_Check.f k n l r = some (v0, e0) ∧ tangramref11_Check.f k n l r = some (v0, e0) ∧ rot_Next.f k n l r = some (nx, e0) ∧ tangramref11_Next.f k n l r = some (nx, e0) ∧ rot_Around.f k n l r = some (ar, e0) ∧ tangramref11_Around.f k n l r = some (ar, e0) ∧ tangramref11_Alike.f k nx nx = some true ∧ tangramref11_Equal.f k ar ar = some true := by
    intro nx ar ⟨K3, a3⟩ ⟨K4, a4⟩ ⟨K5, a5⟩ ⟨K6, a6⟩ hn ha
    have hA := alike_ev (a := nx) (b := nx) hn
    rw [decide_eq_true rfl] at hA
    have hE := equal_ev (x := ar) (y := ar) ha
    rw [decide_eq_true rfl] at hE
    obtain ⟨K1, a1⟩ := h1
    obtain ⟨K2, a2⟩ := h2
    obtain ⟨K7, a7⟩ := hA
    obtain ⟨K8, a8⟩ := hE
    exact ⟨K1 + K2 + K3 + K4 + K5 + K6 + K7 + K8, res.1, res.2, nx, ar, a1 _ (by omega), a2 _ (by omega), a3 _ (by omega), a4 _ (by omega), a5 _ (by omega), a6 _ (by omega), a7 _ (by omega), a8 _ (by omega)⟩
  by_cases h0 : res.2 = 0
  · obtain ⟨N, rfl, hg, hR⟩ := h4.1 h0
    have e1 := h1
    have e2 := h2
    rw [h3 h0] at e1 e2
    obtain ⟨nx, a1, a2⟩ := next_ev hg hR e1
    obtain ⟨nx2, b1, b2⟩ := refnext_ev hg hR e2
    obtain rfl := next_unique hg hR a2 b2
    have hll := hg.2.2.1
    have hnl := a2.1
    rw [h0] at fin
    exact fin a1 b1 (around_ev hg hR e1) (refaround_ev hg hR e2) (by omega) (around_small hg hR)
  · exact fin (next_no h1 h0) (refnext_no h2 h0) (around_no h1 h0) (refaround_no h2 h0) (by simp) small_nil
theorem RotChecks (a0_0 : Int) (A0_1 : Option Addr) (c0_1 : Nat) (l0_1 : List Ed) (A1 : Option Addr) (c1 : Nat) (l1 : List (List Int)) (w : World) (hr0_1 : Kd.C k59 w A0_1 l0_1.length l0_1) (hc0_1 : l0_1.length ≤ c0_1) (hr1 : Kd.C (Kd.slice 3 (Kd.int .i64)) w A1 l1.length l1) (hc1 : l1.length ≤ c1) {P0 : Prop} (g0 : P0)
    (g1 : l1.length * 24 ≤ 140737488351232 ∧ ∀ x ∈ l1, x.length * 8 ≤ 140737488351232 ∧ ∀ y ∈ x, Open.I64 y) :
    Calls Try.prog 4 #[.agg #[.int .i64 a0_0, .slice A0_1 l0_1.length c0_1], .slice A1 l1.length c1] w fun e w' => e = .returned (.bool true) ∧ Below w.heap.size w w' := by
  obtain ⟨k, v0, e0, nx, ar, h1, h2, h3, h4, h5, h6, h7, h8⟩ := checks_rounds a0_0 l0_1 l1 ⟨g1.1, fun l hl => (g1.2 l hl).1⟩
  exact checks_walk k a0_0 A0_1 c0_1 l0_1 A1 c1 l1 w hr0_1 hc0_1 hr1 hc1 v0 e0 nx ar h1 h2 h3 h4 h5 h6 h7 h8
end Go.Proofs.Ytkkhhbegeboonaa.Rot
