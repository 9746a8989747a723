/- DERIVED. Texts of this seat, one behind the other: lemmas and walks that the statement CompsPaths needs. No condition. -/
import Derived.Test.YtoajoklpbfehiaaCCompsPathsa
import Derived.Test.YtoajoklpbfehiaaCCompsPathsb
import Derived.SizedLaws
import Derived.ChangeSlices
import Derived.ProofKit
import Derived.OpenShut
import Derived.ChangeOld
import Derived.Deep.Slices
-- Written by a program of this session (wip/tools/printx.py) over the kit's printer and texts of its own; it is no print of print.sh.


namespace Go.Proofs.Ytoajoklpbfehiaa.GAll
open Go.RowKit Go.Proofs.YtoajoklpbfehiaaW.PrintWords Go.Proofs.YtoajoklpbfehiaaW.PrintLast Go.Proofs.YtoajoklpbfehiaaW.PrintMore
attribute [local go_sem] max2_int min2_int max_two min_two max_three min_three max_four min_four   -- for this text's walks alone
set_option linter.unusedVariables false
set_option linter.unusedSimpArgs false

/-! ### tangramref03_Valid: function 15 -/
mutual
def tangramref03_Valid.j0 : Nat → Bool → Int → List (S33) → Option (Bool)
  | 0, _, _, _ => none
  | k + 1, x19, x113000, x113001 => if x19 = true then (some false) else (tangramref03_Valid.l0 k 0 x113000 x113001)
def tangramref03_Valid.l0 : Nat → Int → Int → List (S33) → Option (Bool)
  | 0, _, _, _ => none
  | k + 1, x3, x113000, x113001 => if x3 < (x113001.length : Int) then (if 0 ≤ x3 then (if ((rd_T33 x113001 x3).f0) < 0 then (tangramref03_Valid.j2 k x3 true x113000 x113001 ((rd_T33 x113001 x3).f0) ((rd_T33 x113001 x3).f1)) else (if ((rd_T33 x113001 x3).f0) ≥ ((rd_T33 x113001 x3).f1) then (tangramref03_Valid.j2 k x3 true x113000 x113001 ((rd_T33 x113001 x3).f0) ((rd_T33 x113001 x3).f1)) else (tangramref03_Valid.j2 k x3 (decide (((rd_T33 x113001 x3).f1) ≥ x113000)) x113000 x113001 ((rd_T33 x113001 x3).f0) ((rd_T33 x113001 x3).f1)))) else (none)) else (some true)
def tangramref03_Valid.j2 : Nat → Int → Bool → Int → List (S33) → Int → Int → Option (Bool)
  | 0, _, _, _, _, _, _ => none
  | k + 1, x3, x48, x113000, x113001, x115000, x115001 => if x48 = true then (some false) else (if x3 > 0 then (if 0 ≤ (wrap64 (x3 - 1)) then (if (wrap64 (x3 - 1)) < (x113001.length : Int) then ((tangramref03_Less.f ((rd_T33 x113001 (wrap64 (x3 - 1))).f0) ((rd_T33 x113001 (wrap64 (x3 - 1))).f1) x115000 x115001).bind fun t116 => (if t116 = true then (tangramref03_Valid.l0 k (wrap64 (x3 + 1)) x113000 x113001) else (some false))) else (none)) else (none)) else (tangramref03_Valid.l0 k (wrap64 (x3 + 1)) x113000 x113001))
end
def tangramref03_Valid.f (k : Nat) (a0_0 : Int) (l0_1 : List (S33)) : Option (Bool) := if a0_0 < 0 then (tangramref03_Valid.j0 k true a0_0 l0_1) else (if a0_0 > 1048576 then (tangramref03_Valid.j0 k true a0_0 l0_1) else (tangramref03_Valid.j0 k (decide ((l0_1.length : Int) > 4194304)) a0_0 l0_1))
theorem tangramref03_Valid.mono_l : ∀ k, (∀ y0 y1 y2, LeO (tangramref03_Valid.j0 k y0 y1 y2) (tangramref03_Valid.j0 (k + 1) y0 y1 y2)) ∧ (∀ y0 y1 y2, LeO (tangramref03_Valid.l0 k y0 y1 y2) (tangramref03_Valid.l0 (k + 1) y0 y1 y2)) ∧ (∀ y0 y1 y2 y3 y4 y5, LeO (tangramref03_Valid.j2 k y0 y1 y2 y3 y4 y5) (tangramref03_Valid.j2 (k + 1) y0 y1 y2 y3 y4 y5))
  | 0 => ⟨fun _ _ _ r h => by simp [tangramref03_Valid.j0] at h, fun _ _ _ r h => by simp [tangramref03_Valid.l0] at h, fun _ _ _ _ _ _ r h => by simp [tangramref03_Valid.j2] at h⟩
  | k + 1 => by
    obtain ⟨ih0, ih1, ih2⟩ := tangramref03_Valid.mono_l k
    refine ⟨?_, ?_, ?_⟩
    · intro y0 y1 y2
      unfold tangramref03_Valid.j0
      repeat' first
      | (with_reducible exact ih0 _ _ _)
      | (with_reducible exact ih1 _ _ _)
      | (with_reducible exact ih2 _ _ _ _ _ _)
      | (with_reducible exact LeO.refl _)
      | (with_reducible exact LeO.none _)
      | (with_reducible refine LeO.ite ?_ ?_)
      | (with_reducible refine LeO.bind ?_ (fun _ => ?_))
      | exact ih0 _ _ _
      | exact ih1 _ _ _
      | exact ih2 _ _ _ _ _ _
      | exact LeO.none _
      | refine LeO.ite ?_ ?_
      | refine LeO.bind ?_ (fun _ => ?_)
    · intro y0 y1 y2
      unfold tangramref03_Valid.l0
      repeat' first
      | (with_reducible exact ih0 _ _ _)
      | (with_reducible exact ih1 _ _ _)
      | (with_reducible exact ih2 _ _ _ _ _ _)
      | (with_reducible exact LeO.refl _)
      | (with_reducible exact LeO.none _)
      | (with_reducible refine LeO.ite ?_ ?_)
      | (with_reducible refine LeO.bind ?_ (fun _ => ?_))
      | exact ih0 _ _ _
      | exact ih1 _ _ _
      | exact ih2 _ _ _ _ _ _
      | exact LeO.none _
      | refine LeO.ite ?_ ?_
      | refine LeO.bind ?_ (fun _ => ?_)
    · intro y0 y1 y2 y3 y4 y5
      unfold tangramref03_Valid.j2
      repeat' first
      | (with_reducible exact ih0 _ _ _)
      | (with_reducible exact ih1 _ _ _)
      | (with_reducible exact ih2 _ _ _ _ _ _)
      | (with_reducible exact LeO.refl _)
      | (with_reducible exact LeO.none _)
      | (with_reducible refine LeO.ite ?_ ?_)
      | (with_reducible refine LeO.bind ?_ (fun _ => ?_))
      | exact ih0 _ _ _
      | exact ih1 _ _ _
      | exact ih2 _ _ _ _ _ _
      | exact LeO.none _
      | refine LeO.ite ?_ ?_
      | refine LeO.bind ?_ (fun _ => ?_)
theorem tangramref03_Valid.mono : ∀ a0 a1 k, LeO (tangramref03_Valid.f k a0 a1) (tangramref03_Valid.f (k + 1) a0 a1) := by
  intro a0 a1 k
  obtain ⟨ih0, ih1, ih2⟩ := tangramref03_Valid.mono_l k
  unfold tangramref03_Valid.f
  repeat' first
      | (with_reducible exact ih0 _ _ _)
      | (with_reducible exact ih1 _ _ _)
      | (with_reducible exact ih2 _ _ _ _ _ _)
      | (with_reducible exact LeO.refl _)
      | (with_reducible exact LeO.none _)
      | (with_reducible refine LeO.ite ?_ ?_)
      | (with_reducible refine LeO.bind ?_ (fun _ => ?_))
      | exact ih0 _ _ _
      | exact ih1 _ _ _
      | exact ih2 _ _ _ _ _ _
      | exact LeO.none _
      | refine LeO.ite ?_ ?_
      | refine LeO.bind ?_ (fun _ => ?_)
def tangramref03_Valid.T10 : Bool × List (List Nat × List Nat) := (true, [([], []), ([0], [0]), ([], []), ([2], [2]), ([1, 3], [1, 3]), ([4], [4]), ([], []), ([5, 6], [5, 6]), ([7, 7, 0, 1, 2, 3, 4, 5, 6, 7], [7])])
def tangramref03_Valid.B10 : List Nat := [0, 1, 0, 4, 15, 31, 0, 127, 255]
theorem tangramref03_Valid.tab10 : rtab .any (opsOf Try.f15 10) = tangramref03_Valid.T10 := by kernel_rfl
theorem tangramref03_Valid.bits10 : waitsOk tangramref03_Valid.T10.2 tangramref03_Valid.B10 = true := by kernel_rfl
set_option maxHeartbeats 8000000 in
set_option maxRecDepth 100000 in
theorem tangramref03_Valid.calls (k : Nat) (a0_0 : Int) (A0_1 : Option Addr) (c0_1 : Nat) (l0_1 : List (S33)) (r : Bool) (w : World) (hr0_1 : Kd.C k33 w A0_1 l0_1.length l0_1) (hc0_1 : l0_1.length ≤ c0_1) (h : tangramref03_Valid.f k a0_0 l0_1 = some r) :
    Calls Try.prog 15 #[.agg #[.int .i64 a0_0, .slice A0_1 l0_1.length c0_1]] w fun e w' => e = .returned (.bool r) ∧ Below w.heap.size w w' := by
  have hu31 := Try.underlying31
  have hu33 := Try.underlying33
  have HR0_1 := Aside0.mk hr0_1
  have HC0_1 := Aside0.mk hc0_1
  clear hr0_1 hc0_1
  have HB := Aside0.mk (Below.refl w.heap.size w)
  have H : (if a0_0 < 0 then (tangramref03_Valid.j0 k true a0_0 l0_1) else (if a0_0 > 1048576 then (tangramref03_Valid.j0 k true a0_0 l0_1) else (tangramref03_Valid.j0 k (decide ((l0_1.length : Int) > 4194304)) a0_0 l0_1))) = some r := h
  clear h
  have HC2 := Aside0.mk H
  clear H
  go_enter Try.func15, Try.ntmps15
  go_upto_region 1 with (first | ((with_reducible refine gate_dst (N := 1) rfl ?_); (try (refine gate_guard (by rfl) ?_; dsimp only)); refine box_event ?hg (N := 1) ?hd (cs := #[.int .i64 a0_0, .slice A0_1 l0_1.length c0_1]) (t := 31) ?hr ?_; (case hd => rfl); (case hg => rfl); (case hr => first | (go_simp; done) | (go_simp; rfl)); intro gb112 hg w3 hbox hb; have n0_ := Aside0.mk (below_step (by repeat (first | (with_reducible first | exact HB.out | apply below_alloc | apply pw_below_drewN | apply below_drew1) | exact HB.out)) hb); have n1_ := Aside0.mk (hbox); have n2_ := Aside0.mk ((by rw [hg]; exact (below_size (by repeat (first | (with_reducible first | exact HB.out | apply below_alloc | apply pw_below_drewN | apply below_drew1) | exact HB.out))) : w.heap.size ≤ gb112)); have n3_ := Aside0.mk ((by rw [hg]; exact (below_size (by repeat (first | (with_reducible first | exact HB.out | apply below_alloc | apply pw_below_drewN | apply below_drew1) | exact HB.out))) : w.heap.size ≤ gb112)); clear HB; have HB := n0_; have BK112 := n1_; have GW112 := n2_; have GE112 := n3_; clear n0_ n1_ n2_ n3_; clear hb hbox hg))
  (try simp only [Act.put, List.setIfInBounds_toArray, List.set_cons_zero, List.set_cons_succ])
  go_cut [19] (fun v19 wc => ∃ (kq : Nat) (x19_1 : Bool), v19 = .bool x19_1 ∧ Aside0 (tangramref03_Valid.j0 kq x19_1 a0_0 l0_1 = some r) ∧ Aside0 (kq ≤ k) ∧ Aside0 (wc.heap[gb112]? = some (.cells #[.int .i64 a0_0, (.slice A0_1 l0_1.length c0_1)] 31 (0, 0))) ∧ Aside0 (Below w.heap.size w wc))
  case first =>
    have H := HC2.out
    clear HC2
    by_cases c4 : a0_0 < 0
    · rw [if_pos c4] at H
      have c4b0 : decide (a0_0 < 0) = true := decide_eq_true c4
      clear c4
      (first | rw [c4b0] | (simp only [i64_w, i32_w]; rw [c4b0]) | skip)
      have H' := Aside0.mk H
      clear H
      have hcz5_0 : w3.cell? ⟨gb112, 0, none⟩ = some (.int .i64 a0_0) := (blk_cell BK112.out 0).trans rfl
      have hcz5_1 : w3.cell? ⟨gb112, 1, none⟩ = some (.slice A0_1 l0_1.length c0_1) := (blk_cell BK112.out 1).trans rfl
      have hfz5_0 := blk_frozen BK112.out 0
      have hfz5_1 := blk_frozen BK112.out 1
      go_wp2
      go_meet
      case rel => exact ⟨_, (true), (by first | rfl | (simp; done) | (simp [*]; done)), H', ⟨by first | omega | exact Nat.le_refl _⟩, ⟨by (with_reducible repeat (first | refine blk_drewN ?_ _ | refine blk_drew ?_ | refine blk_alloc ?_ _)); exact BK112.out⟩, ⟨by repeat (first | (with_reducible first | exact HB.out | apply below_alloc | apply pw_below_drewN | apply below_drew1 | refine below_set ?_ GE112.out) | exact HB.out)⟩⟩
    · rw [if_neg c4] at H
      have c4b0 : decide (a0_0 < 0) = false := decide_eq_false c4
      clear c4
      (first | rw [c4b0] | (simp only [i64_w, i32_w]; rw [c4b0]) | skip)
      by_cases c6 : a0_0 > 1048576
      · rw [if_pos c6] at H
        have c6b0 : decide (1048576 < a0_0) = true := decide_eq_true c6
        clear c6
        have H' := Aside0.mk H
        clear H
        have hcz7_0 : w3.cell? ⟨gb112, 0, none⟩ = some (.int .i64 a0_0) := (blk_cell BK112.out 0).trans rfl
        have hcz7_1 : w3.cell? ⟨gb112, 1, none⟩ = some (.slice A0_1 l0_1.length c0_1) := (blk_cell BK112.out 1).trans rfl
        have hfz7_0 := blk_frozen BK112.out 0
        have hfz7_1 := blk_frozen BK112.out 1
        go_wp2
        go_meet
        case rel => exact ⟨_, (true), (by first | rfl | (simp; done) | (simp [*]; done)), H', ⟨by first | omega | exact Nat.le_refl _⟩, ⟨by (with_reducible repeat (first | refine blk_drewN ?_ _ | refine blk_drew ?_ | refine blk_alloc ?_ _)); exact BK112.out⟩, ⟨by repeat (first | (with_reducible first | exact HB.out | apply below_alloc | apply pw_below_drewN | apply below_drew1 | refine below_set ?_ GE112.out) | exact HB.out)⟩⟩
      · rw [if_neg c6] at H
        have c6b0 : decide (1048576 < a0_0) = false := decide_eq_false c6
        clear c6
        have H' := Aside0.mk H
        clear H
        have hcz8_0 : w3.cell? ⟨gb112, 0, none⟩ = some (.int .i64 a0_0) := (blk_cell BK112.out 0).trans rfl
        have hcz8_1 : w3.cell? ⟨gb112, 1, none⟩ = some (.slice A0_1 l0_1.length c0_1) := (blk_cell BK112.out 1).trans rfl
        have hfz8_0 := blk_frozen BK112.out 0
        have hfz8_1 := blk_frozen BK112.out 1
        go_wp2
        go_meet
        case rel => exact ⟨_, (decide ((l0_1.length : Int) > 4194304)), (by first | rfl | (simp; done) | (simp [*]; done)), H', ⟨by first | omega | exact Nat.le_refl _⟩, ⟨by (with_reducible repeat (first | refine blk_drewN ?_ _ | refine blk_drew ?_ | refine blk_alloc ?_ _)); exact BK112.out⟩, ⟨by repeat (first | (with_reducible first | exact HB.out | apply below_alloc | apply pw_below_drewN | apply below_drew1 | refine below_set ?_ GE112.out) | exact HB.out)⟩⟩
  case rest =>
    clear HC2
    try clear c1
    try clear p2
    try clear c4
    try clear c4b0
    try clear c6
    try clear c6b0
    try clear hcz5_0
    try clear hcz5_1
    try clear hcz7_0
    try clear hcz7_1
    try clear hcz8_0
    try clear hcz8_1
    try clear hfz5_0
    try clear hfz5_1
    try clear hfz7_0
    try clear hfz7_1
    try clear hfz8_0
    try clear hfz8_1
    obtain ⟨kq, x19_1, rfl, HA, HJ1, BK112, HB⟩ := hcut
    cases kq with
    | zero => exact absurd HA.out (by simp [tangramref03_Valid.j0])
    | succ kj1 =>
      have H := HA.out
      clear HA
      simp only [tangramref03_Valid.j0] at H
      by_cases c9 : x19_1 = true
      · subst c9
        have H1 : (some false) = some r := by rw [if_pos rfl] at H; exact H
        clear H
        have H := H1
        clear H1
        obtain rfl := Option.some.inj H
        go_wp2
        go_ret
        exact ⟨by first | rfl | (simp [errW_none, errW_some] <;> rfl) | (simp [*, errW_none, errW_some] <;> rfl), by repeat (first | (with_reducible first | exact HB.out | apply below_alloc | apply pw_below_drewN | apply below_drew1 | refine below_set ?_ GE112.out) | exact HB.out)⟩
      · replace c9 := Bool.eq_false_iff.mpr c9
        subst c9
        have H1 : (tangramref03_Valid.l0 kj1 0 a0_0 l0_1) = some r := by rw [if_neg (show ¬ (false = true) by decide)] at H; exact H
        clear H
        have H := H1
        clear H1
        have H' := Aside0.mk H
        clear H
        go_wp2
        go_loopg [3] kj1 (fun kq v3 w' => ∃ (x3_2 : Int), v3 = .int .i64 x3_2 ∧ Aside0 (tangramref03_Valid.l0 kq x3_2 a0_0 l0_1 = some r) ∧ Aside0 (kq ≤ kj1) ∧ Aside0 (w'.heap[gb112]? = some (.cells #[.int .i64 a0_0, (.slice A0_1 l0_1.length c0_1)] 31 (0, 0))) ∧ Aside0 (Below w.heap.size w w'))
        case atStart => exact ⟨(0), (by first | rfl | (simp; done) | (simp [*]; done)), H', ⟨Nat.le_refl _⟩, ⟨by (with_reducible repeat (first | refine blk_drewN ?_ _ | refine blk_drew ?_ | refine blk_alloc ?_ _)); exact BK112.out⟩, ⟨by repeat (first | (with_reducible first | exact HB.out | apply below_alloc | apply pw_below_drewN | apply below_drew1 | refine below_set ?_ GE112.out) | exact HB.out)⟩⟩
        case round =>
          clear H'
          try clear c1
          try clear p2
          try clear c4
          try clear c4b0
          try clear c6
          try clear c6b0
          try clear c9
          try clear hcz5_0
          try clear hcz5_1
          try clear hcz7_0
          try clear hcz7_1
          try clear hcz8_0
          try clear hcz8_1
          try clear hfz5_0
          try clear hfz5_1
          try clear hfz7_0
          try clear hfz7_1
          try clear hfz8_0
          try clear hfz8_1
          try clear p2
          obtain ⟨x3_2, rfl, HA, HK2, BK112, HB⟩ := hrel
          cases gk with
          | zero => exact absurd HA.out (by simp [tangramref03_Valid.l0])
          | succ k2 =>
            have H := HA.out
            clear HA
            simp only [tangramref03_Valid.l0] at H
            by_cases c10 : x3_2 < (l0_1.length : Int)
            · rw [if_pos c10] at H
              have c10b0 : decide (x3_2 < (l0_1.length : Int)) = true := decide_eq_true c10
              clear c10
              by_cases c11 : 0 ≤ x3_2
              · rw [if_pos c11] at H
                have c11b0 : decide (0 ≤ x3_2) = true := decide_eq_true c11
                clear c11
                have HC12 := Aside0.mk H
                clear H
                have hcz13_0 : wr.cell? ⟨gb112, 0, none⟩ = some (.int .i64 a0_0) := (blk_cell BK112.out 0).trans rfl
                have hcz13_1 : wr.cell? ⟨gb112, 1, none⟩ = some (.slice A0_1 l0_1.length c0_1) := (blk_cell BK112.out 1).trans rfl
                have hfz13_0 := blk_frozen BK112.out 0
                have hfz13_1 := blk_frozen BK112.out 1
                have p113 : 0 ≤ (x3_2 : Int) := of_decide_eq_true (by first | (with_reducible assumption) | assumption)
                have q113 : x3_2 < (l0_1.length : Int) := of_decide_eq_true (by first | (with_reducible assumption) | assumption)
                obtain ⟨ad113, e113, hx113_0, hx113_1⟩ := at_T33 HR0_1.out x3_2 p113 q113
                cases e113
                replace hx113_0 := (HB.out.cell (World.block_lt_of_cell? w _ hx113_0)).trans hx113_0
                replace hx113_1 := (HB.out.cell (World.block_lt_of_cell? w _ hx113_1)).trans hx113_1
                replace p113 := eq_true p113
                replace q113 := eq_true q113
                go_upto_region 7 with (first | ((with_reducible refine gate_dst (N := 4) rfl ?_); (try (refine gate_guard (by rfl) ?_; dsimp only)); refine box_event ?hg (N := 4) ?hd (cs := #[.int .i64 0, .int .i64 0]) (t := 33) ?hr ?_; (case hd => rfl); (case hg => rfl); (case hr => first | (go_simp; done) | (go_simp; rfl)); intro gb114 hg w14 hbox hb; have n0_ := Aside0.mk (blk_below (g := gb112) (o := .cells #[.int .i64 a0_0, .slice (some ad113) l0_1.length c0_1] 31 (0, 0)) (by (with_reducible repeat (first | refine blk_drewN ?_ _ | refine blk_drew ?_ | refine blk_alloc ?_ _)); exact BK112.out) hb); have n1_ := Aside0.mk (below_step (by repeat (first | (with_reducible first | exact HB.out | apply below_alloc | apply pw_below_drewN | apply below_drew1 | refine below_set ?_ GE112.out) | exact HB.out)) hb); have n2_ := Aside0.mk (hbox); have n3_ := Aside0.mk ((by rw [hg]; exact (below_size (by repeat (first | (with_reducible first | exact HB.out | apply below_alloc | apply pw_below_drewN | apply below_drew1 | refine below_set ?_ GE112.out) | exact HB.out))) : w.heap.size ≤ gb114)); have n4_ := Aside0.mk ((by rw [hg]; exact (below_size (by repeat (first | (with_reducible first | exact HB.out | apply below_alloc | apply pw_below_drewN | apply below_drew1 | refine below_set ?_ GE112.out) | exact HB.out))) : w.heap.size ≤ gb114)); have n5_ := Aside0.mk ((by rw [hg]; exact Nat.ne_of_lt (blk_lt (g := gb112) (o := .cells #[.int .i64 a0_0, .slice (some ad113) l0_1.length c0_1] 31 (0, 0)) (by (with_reducible repeat (first | refine blk_drewN ?_ _ | refine blk_drew ?_ | refine blk_alloc ?_ _)); exact BK112.out)) : gb112 ≠ gb114)); have n6_ := Aside0.mk ((by rw [hg]; exact Nat.ne_of_gt (blk_lt (g := gb112) (o := .cells #[.int .i64 a0_0, .slice (some ad113) l0_1.length c0_1] 31 (0, 0)) (by (with_reducible repeat (first | refine blk_drewN ?_ _ | refine blk_drew ?_ | refine blk_alloc ?_ _)); exact BK112.out)) : gb114 ≠ gb112)); clear BK112; clear HB; have BK112 := n0_; have HB := n1_; have BK114 := n2_; have GW114 := n3_; have GE114 := n4_; have NB112_114 := n5_; have NB114_112 := n6_; clear n0_ n1_ n2_ n3_ n4_ n5_ n6_; clear hb hbox hg; have hnb15 := NB114_112.out; have hnc15 := NB112_114.out; have hcz16_0 : w14.cell? ⟨gb114, 0, none⟩ = some (.int .i64 0) := (blk_cell BK114.out 0).trans rfl; have hcz16_1 : w14.cell? ⟨gb114, 1, none⟩ = some (.int .i64 0) := (blk_cell BK114.out 1).trans rfl; have hfz16_0 := blk_frozen BK114.out 0; have hfz16_1 := blk_frozen BK114.out 1))
                (try simp only [Act.put, List.setIfInBounds_toArray, List.set_cons_zero, List.set_cons_succ])
                go_cut [48] (fun v48 wc => ∃ (kq : Nat) (x48_11 : Bool), v48 = .bool x48_11 ∧ Aside0 (tangramref03_Valid.j2 kq x3_2 x48_11 a0_0 l0_1 ((rd_T33 l0_1 x3_2).f0) ((rd_T33 l0_1 x3_2).f1) = some r) ∧ Aside0 (kq ≤ k2) ∧ Aside0 (wc.heap[gb112]? = some (.cells #[.int .i64 a0_0, (.slice (some ad113) l0_1.length c0_1)] 31 (0, 0))) ∧ Aside0 (wc.heap[gb114]? = some (.cells #[.int .i64 ((rd_T33 l0_1 x3_2).f0), .int .i64 ((rd_T33 l0_1 x3_2).f1)] 33 (0, 0))) ∧ Aside0 (Below w.heap.size w wc))
                case first =>
                  have H := HC12.out
                  clear HC12
                  by_cases c17 : ((rd_T33 l0_1 x3_2).f0) < 0
                  · rw [if_pos c17] at H
                    have c17b0 : decide (((rd_T33 l0_1 x3_2).f0) < 0) = true := decide_eq_true c17
                    clear c17
                    (first | rw [c17b0] | (simp only [i64_w, i32_w]; rw [c17b0]) | skip)
                    have H' := Aside0.mk H
                    clear H
                    have hnb18 := NB114_112.out
                    have hnc18 := NB112_114.out
                    have hcz19_0 : w14.cell? ⟨gb114, 0, none⟩ = some (.int .i64 0) := (blk_cell BK114.out 0).trans rfl
                    have hcz19_1 : w14.cell? ⟨gb114, 1, none⟩ = some (.int .i64 0) := (blk_cell BK114.out 1).trans rfl
                    have hfz19_0 := blk_frozen BK114.out 0
                    have hfz19_1 := blk_frozen BK114.out 1
                    go_wp2
                    go_meet
                    case rel => exact ⟨_, (true), (by first | rfl | (simp; done) | (simp [*]; done)), H', ⟨by have := HJ1.out; have := HK2.out; first | omega | exact Nat.le_refl _⟩, ⟨by (with_reducible repeat (first | refine blk_drewN ?_ _ | refine blk_drew ?_ | refine blk_alloc ?_ _)); refine blk_far ?_ NB112_114.out _; (with_reducible repeat (first | refine blk_drewN ?_ _ | refine blk_drew ?_ | refine blk_alloc ?_ _)); refine blk_far ?_ NB112_114.out _; (with_reducible repeat (first | refine blk_drewN ?_ _ | refine blk_drew ?_ | refine blk_alloc ?_ _)); exact BK112.out⟩, ⟨by (with_reducible repeat (first | refine blk_drewN ?_ _ | refine blk_drew ?_ | refine blk_alloc ?_ _)); refine blk_put (cs := #[.int .i64 ((rd_T33 l0_1 x3_2).f0), .int .i64 0]) ?_ 1 _ rfl; (with_reducible repeat (first | refine blk_drewN ?_ _ | refine blk_drew ?_ | refine blk_alloc ?_ _)); refine blk_put (cs := #[.int .i64 0, .int .i64 0]) ?_ 0 _ rfl; (with_reducible repeat (first | refine blk_drewN ?_ _ | refine blk_drew ?_ | refine blk_alloc ?_ _)); exact BK114.out⟩, ⟨by repeat (first | (with_reducible first | exact HB.out | apply below_alloc | apply pw_below_drewN | apply below_drew1 | refine below_set ?_ GE112.out | refine below_set ?_ GE114.out) | exact HB.out)⟩⟩
                  · rw [if_neg c17] at H
                    have c17b0 : decide (((rd_T33 l0_1 x3_2).f0) < 0) = false := decide_eq_false c17
                    clear c17
                    (first | rw [c17b0] | (simp only [i64_w, i32_w]; rw [c17b0]) | skip)
                    by_cases c20 : ((rd_T33 l0_1 x3_2).f0) ≥ ((rd_T33 l0_1 x3_2).f1)
                    · rw [if_pos c20] at H
                      have c20b0 : decide (((rd_T33 l0_1 x3_2).f1) ≤ ((rd_T33 l0_1 x3_2).f0)) = true := decide_eq_true c20
                      clear c20
                      have H' := Aside0.mk H
                      clear H
                      have hnb21 := NB114_112.out
                      have hnc21 := NB112_114.out
                      have hcz22_0 : w14.cell? ⟨gb114, 0, none⟩ = some (.int .i64 0) := (blk_cell BK114.out 0).trans rfl
                      have hcz22_1 : w14.cell? ⟨gb114, 1, none⟩ = some (.int .i64 0) := (blk_cell BK114.out 1).trans rfl
                      have hfz22_0 := blk_frozen BK114.out 0
                      have hfz22_1 := blk_frozen BK114.out 1
                      go_wp2
                      go_meet
                      case rel => exact ⟨_, (true), (by first | rfl | (simp; done) | (simp [*]; done)), H', ⟨by have := HJ1.out; have := HK2.out; first | omega | exact Nat.le_refl _⟩, ⟨by (with_reducible repeat (first | refine blk_drewN ?_ _ | refine blk_drew ?_ | refine blk_alloc ?_ _)); refine blk_far ?_ NB112_114.out _; (with_reducible repeat (first | refine blk_drewN ?_ _ | refine blk_drew ?_ | refine blk_alloc ?_ _)); refine blk_far ?_ NB112_114.out _; (with_reducible repeat (first | refine blk_drewN ?_ _ | refine blk_drew ?_ | refine blk_alloc ?_ _)); exact BK112.out⟩, ⟨by (with_reducible repeat (first | refine blk_drewN ?_ _ | refine blk_drew ?_ | refine blk_alloc ?_ _)); refine blk_put (cs := #[.int .i64 ((rd_T33 l0_1 x3_2).f0), .int .i64 0]) ?_ 1 _ rfl; (with_reducible repeat (first | refine blk_drewN ?_ _ | refine blk_drew ?_ | refine blk_alloc ?_ _)); refine blk_put (cs := #[.int .i64 0, .int .i64 0]) ?_ 0 _ rfl; (with_reducible repeat (first | refine blk_drewN ?_ _ | refine blk_drew ?_ | refine blk_alloc ?_ _)); exact BK114.out⟩, ⟨by repeat (first | (with_reducible first | exact HB.out | apply below_alloc | apply pw_below_drewN | apply below_drew1 | refine below_set ?_ GE112.out | refine below_set ?_ GE114.out) | exact HB.out)⟩⟩
                    · rw [if_neg c20] at H
                      have c20b0 : decide (((rd_T33 l0_1 x3_2).f1) ≤ ((rd_T33 l0_1 x3_2).f0)) = false := decide_eq_false c20
                      clear c20
                      have H' := Aside0.mk H
                      clear H
                      have hnb23 := NB114_112.out
                      have hnc23 := NB112_114.out
                      have hcz24_0 : w14.cell? ⟨gb114, 0, none⟩ = some (.int .i64 0) := (blk_cell BK114.out 0).trans rfl
                      have hcz24_1 : w14.cell? ⟨gb114, 1, none⟩ = some (.int .i64 0) := (blk_cell BK114.out 1).trans rfl
                      have hfz24_0 := blk_frozen BK114.out 0
                      have hfz24_1 := blk_frozen BK114.out 1
                      have hcz25_0 : w14.cell? ⟨gb112, 0, none⟩ = some (.int .i64 a0_0) := (blk_cell BK112.out 0).trans rfl
                      have hcz25_1 : w14.cell? ⟨gb112, 1, none⟩ = some (.slice (some ad113) l0_1.length c0_1) := (blk_cell BK112.out 1).trans rfl
                      have hfz25_0 := blk_frozen BK112.out 0
                      have hfz25_1 := blk_frozen BK112.out 1
                      go_wp2
                      go_meet
                      case rel => exact ⟨_, (decide (((rd_T33 l0_1 x3_2).f1) ≥ a0_0)), (by first | rfl | (simp; done) | (simp [*]; done)), H', ⟨by have := HJ1.out; have := HK2.out; first | omega | exact Nat.le_refl _⟩, ⟨by (with_reducible repeat (first | refine blk_drewN ?_ _ | refine blk_drew ?_ | refine blk_alloc ?_ _)); refine blk_far ?_ NB112_114.out _; (with_reducible repeat (first | refine blk_drewN ?_ _ | refine blk_drew ?_ | refine blk_alloc ?_ _)); refine blk_far ?_ NB112_114.out _; (with_reducible repeat (first | refine blk_drewN ?_ _ | refine blk_drew ?_ | refine blk_alloc ?_ _)); exact BK112.out⟩, ⟨by (with_reducible repeat (first | refine blk_drewN ?_ _ | refine blk_drew ?_ | refine blk_alloc ?_ _)); refine blk_put (cs := #[.int .i64 ((rd_T33 l0_1 x3_2).f0), .int .i64 0]) ?_ 1 _ rfl; (with_reducible repeat (first | refine blk_drewN ?_ _ | refine blk_drew ?_ | refine blk_alloc ?_ _)); refine blk_put (cs := #[.int .i64 0, .int .i64 0]) ?_ 0 _ rfl; (with_reducible repeat (first | refine blk_drewN ?_ _ | refine blk_drew ?_ | refine blk_alloc ?_ _)); exact BK114.out⟩, ⟨by repeat (first | (with_reducible first | exact HB.out | apply below_alloc | apply pw_below_drewN | apply below_drew1 | refine below_set ?_ GE112.out | refine below_set ?_ GE114.out) | exact HB.out)⟩⟩
                case rest =>
                  clear HC12
                  try clear c1
                  try clear p1
                  try clear q1
                  try clear hx1
                  try clear c2
                  try clear p2
                  try clear c4
                  try clear c4b0
                  try clear c6
                  try clear c6b0
                  try clear c9
                  try clear c10
                  try clear c10b0
                  try clear c11
                  try clear c11b0
                  try clear p11
                  try clear q11
                  try clear hx11
                  try clear c15
                  try clear c17
                  try clear c17b0
                  try clear c18
                  try clear c20
                  try clear c20b0
                  try clear c21
                  try clear c23
                  try clear hcz13_0
                  try clear hcz13_1
                  try clear hcz16_0
                  try clear hcz16_1
                  try clear hcz19_0
                  try clear hcz19_1
                  try clear hcz22_0
                  try clear hcz22_1
                  try clear hcz24_0
                  try clear hcz24_1
                  try clear hcz25_0
                  try clear hcz25_1
                  try clear hcz5_0
                  try clear hcz5_1
                  try clear hcz7_0
                  try clear hcz7_1
                  try clear hcz8_0
                  try clear hcz8_1
                  try clear hfz13_0
                  try clear hfz13_1
                  try clear hfz16_0
                  try clear hfz16_1
                  try clear hfz19_0
                  try clear hfz19_1
                  try clear hfz22_0
                  try clear hfz22_1
                  try clear hfz24_0
                  try clear hfz24_1
                  try clear hfz25_0
                  try clear hfz25_1
                  try clear hfz5_0
                  try clear hfz5_1
                  try clear hfz7_0
                  try clear hfz7_1
                  try clear hfz8_0
                  try clear hfz8_1
                  try clear hx113_0
                  try clear hx113_1
                  try clear p113
                  try clear p2
                  try clear q113
                  obtain ⟨kq, x48_11, rfl, HA, HJ11, BK112, BK114, HB⟩ := hcut
                  cases kq with
                  | zero => exact absurd HA.out (by simp [tangramref03_Valid.j2])
                  | succ kj11 =>
                    have H := HA.out
                    clear HA
                    simp only [tangramref03_Valid.j2] at H
                    by_cases c26 : x48_11 = true
                    · subst c26
                      have H1 : (some false) = some r := by rw [if_pos rfl] at H; exact H
                      clear H
                      have H := H1
                      clear H1
                      obtain rfl := Option.some.inj H
                      go_wp2
                      go_ret
                      exact ⟨by first | rfl | (simp [errW_none, errW_some] <;> rfl) | (simp [*, errW_none, errW_some] <;> rfl), by repeat (first | (with_reducible first | exact HB.out | apply below_alloc | apply pw_below_drewN | apply below_drew1 | refine below_set ?_ GE112.out | refine below_set ?_ GE114.out) | exact HB.out)⟩
                    · replace c26 := Bool.eq_false_iff.mpr c26
                      subst c26
                      have H1 : (if x3_2 > 0 then (if 0 ≤ (wrap64 (x3_2 - 1)) then (if (wrap64 (x3_2 - 1)) < (l0_1.length : Int) then ((tangramref03_Less.f ((rd_T33 l0_1 (wrap64 (x3_2 - 1))).f0) ((rd_T33 l0_1 (wrap64 (x3_2 - 1))).f1) ((rd_T33 l0_1 x3_2).f0) ((rd_T33 l0_1 x3_2).f1)).bind fun t116 => (if t116 = true then (tangramref03_Valid.l0 kj11 (wrap64 (x3_2 + 1)) a0_0 l0_1) else (some false))) else (none)) else (none)) else (tangramref03_Valid.l0 kj11 (wrap64 (x3_2 + 1)) a0_0 l0_1)) = some r := by rw [if_neg (show ¬ (false = true) by decide)] at H; exact H
                      clear H
                      have H := H1
                      clear H1
                      by_cases c27 : x3_2 > 0
                      · rw [if_pos c27] at H
                        have c27b0 : decide (0 < x3_2) = true := decide_eq_true c27
                        clear c27
                        obtain ⟨ji28, hji28⟩ : ∃ j_ : Int, (wrap64 (x3_2 - 1)) = j_ := ⟨_, rfl⟩
                        replace H : (if 0 ≤ (ji28) then (if (ji28) < (l0_1.length : Int) then ((tangramref03_Less.f ((rd_T33 l0_1 (ji28)).f0) ((rd_T33 l0_1 (ji28)).f1) ((rd_T33 l0_1 x3_2).f0) ((rd_T33 l0_1 x3_2).f1)).bind fun t116 => (if t116 = true then (tangramref03_Valid.l0 kj11 (wrap64 (x3_2 + 1)) a0_0 l0_1) else (some false))) else (none)) else (none)) = some r := by first | (rw [hji28] at H; exact H) | (simp only [hji28] at H ⊢; exact H)
                        have hji28w : (IntKind.i64.wrap (x3_2 - 1)) = ji28 := (i64_w _).trans hji28
                        by_cases c29 : 0 ≤ (ji28)
                        · rw [if_pos c29] at H
                          have c29b0 : decide (0 ≤ (ji28)) = true := decide_eq_true c29
                          clear c29
                          by_cases c30 : (ji28) < (l0_1.length : Int)
                          · rw [if_pos c30] at H
                            have c30b0 : decide ((ji28) < (l0_1.length : Int)) = true := decide_eq_true c30
                            clear c30
                            replace H := Option.bind_eq_some_iff.mp H
                            obtain ⟨t116, A310, H⟩ := H
                            replace H : (if t116 = true then (tangramref03_Valid.l0 kj11 (wrap64 (x3_2 + 1)) a0_0 l0_1) else (some false)) = some r := H
                            have A31 := Aside0.mk A310
                            clear A310
                            by_cases c32 : t116 = true
                            · subst c32
                              have H1 : (tangramref03_Valid.l0 kj11 (wrap64 (x3_2 + 1)) a0_0 l0_1) = some r := by rw [if_pos rfl] at H; exact H
                              clear H
                              have H := H1
                              clear H1
                              have H' := Aside0.mk H
                              clear H
                              try go_wp2
                              have n0_ := Aside0.mk (blk_drew BK112.out)
                              have n1_ := Aside0.mk (blk_drew BK114.out)
                              have n2_ := Aside0.mk (below_drew1 HB.out)
                              clear BK112
                              clear BK114
                              clear HB
                              have BK112 := n0_
                              have BK114 := n1_
                              have HB := n2_
                              clear n0_ n1_ n2_
                              have p115 : 0 ≤ ((ji28) : Int) := of_decide_eq_true (by first | (with_reducible assumption) | assumption)
                              have q115 : (ji28) < (l0_1.length : Int) := of_decide_eq_true (by first | (with_reducible assumption) | assumption)
                              obtain ⟨ad115, e115, hx115_0, hx115_1⟩ := at_T33 HR0_1.out (ji28) p115 q115
                              have hw115_1 := hx115_1
                              have hw115_0 := hx115_0
                              obtain rfl : ad113 = ad115 := (by injection e115)
                              replace hx115_0 := (HB.out.cell (World.block_lt_of_cell? w _ hx115_0)).trans hx115_0
                              replace hx115_1 := (HB.out.cell (World.block_lt_of_cell? w _ hx115_1)).trans hx115_1
                              replace p115 := eq_true p115
                              replace q115 := eq_true q115
                              refine start_ (n := 9) (S := fun w' => w'.cell? ⟨gb112, 0, none⟩ = some (.int .i64 a0_0) ∧ w'.cell? ⟨gb112, 1, none⟩ = some (.slice (some ad113) l0_1.length c0_1) ∧ w'.cell? ⟨gb114, 0, none⟩ = some (.int .i64 ((rd_T33 l0_1 x3_2).f0)) ∧ w'.cell? ⟨gb114, 1, none⟩ = some (.int .i64 ((rd_T33 l0_1 x3_2).f1)) ∧ w'.cell? (ad113.add (((ji28)).toNat * 2)) = some (.int .i64 ((rd_T33 l0_1 (ji28)).f0)) ∧ w'.cell? ⟨(ad113.add (((ji28)).toNat * 2)).block, (ad113.add (((ji28)).toNat * 2)).off + 1, none⟩ = some (.int .i64 ((rd_T33 l0_1 (ji28)).f1))) (ds := []) #[false, false, false, false, false, false, false, false, false] (by kernel_rfl) rfl rfl ⟨(blk_cell BK112.out 0).trans rfl, (blk_cell BK112.out 1).trans rfl, (blk_cell BK114.out 0).trans rfl, (blk_cell BK114.out 1).trans rfl, ((HB.out.cell (World.block_lt_of_cell? w _ hw115_0)).trans hw115_0), ((HB.out.cell (World.block_lt_of_cell? w _ hw115_1)).trans hw115_1)⟩ (fun hHeld => ?_); refine with_tabW tangramref03_Valid.tab10 tangramref03_Valid.bits10 (fun HT_ HW_ => ?_)
                              generalize wc.drew = w33 at BK112 BK114 HB hx115_0 hx115_1 hHeld ⊢
                              refine pure_ (i := 0) (N := some 51) (v := ?_) (a' := ?_) #[true, false, false, false, false, false, false, false, false] rfl rfl (any_of HT_.out (by kernel_rfl)) (fun _ _ _ h => h) (Or.inl ⟨by rfl, ?_⟩) ?_ ?_
                              rotate_left
                              · intro w'
                                go_simp
                                with_reducible rfl
                              rotate_left
                              · simp only [Act.put, List.setIfInBounds_toArray, List.set_cons_zero, List.set_cons_succ, i64_w, i32_w]
                                rfl
                              refine pure_ (i := 2) (N := some 53) (v := ?_) (a' := ?_) #[true, false, true, false, false, false, false, false, false] rfl rfl (any_of HT_.out (by kernel_rfl)) (fun _ _ _ h => h) (Or.inl ⟨by rfl, ?_⟩) ?_ ?_
                              rotate_left
                              · intro w'
                                go_simp
                                with_reducible rfl
                              rotate_left
                              · simp only [Act.put, List.setIfInBounds_toArray, List.set_cons_zero, List.set_cons_succ, i64_w, i32_w]
                                rfl
                              refine pure_ (i := 3) (N := some 54) (v := ?_) (a' := ?_) #[true, false, true, true, false, false, false, false, false] rfl rfl (any_of HT_.out (by kernel_rfl)) (fun _ _ _ h => h) (Or.inl ⟨by rfl, ?_⟩) ?_ ?_
                              rotate_left
                              · intro w'
                                go_simp
                                with_reducible rfl
                              rotate_left
                              · simp only [Act.put, List.setIfInBounds_toArray, List.set_cons_zero, List.set_cons_succ, i64_w, i32_w]
                                rfl
                              refine take_ (i := 1) (N := some 52) (v := ?_) (a' := ?_) #[true, true, true, true, false, false, false, false, false] rfl rfl (take_ofW HT_.out HW_.out (by kernel_rfl)) (fun _ _ _ h => h) (Or.inl ⟨by rfl, ?_⟩) hHeld ?_ ?_
                              rotate_left
                              · rintro w' ⟨s0, s1, s2, s3, s4, s5⟩
                                go_simp
                                with_reducible rfl
                              rotate_left
                              · simp only [Act.put, List.setIfInBounds_toArray, List.set_cons_zero, List.set_cons_succ, i64_w, i32_w]
                                rfl
                              refine pure_ (i := 4) (N := some 55) (v := ?_) (a' := ?_) #[true, true, true, true, true, false, false, false, false] rfl rfl (any_of HT_.out (by kernel_rfl)) (fun _ _ _ h => h) (Or.inl ⟨by rfl, ?_⟩) ?_ ?_
                              rotate_left
                              · intro w'
                                go_simp
                                with_reducible rfl
                              rotate_left
                              · simp only [Act.put, List.setIfInBounds_toArray, List.set_cons_zero, List.set_cons_succ, i64_w, i32_w]
                                rfl
                              refine take_ (i := 5) (N := some 56) (v := ?_) (a' := ?_) #[true, true, true, true, true, true, false, false, false] rfl rfl (take_ofW HT_.out HW_.out (by kernel_rfl)) (fun _ _ _ h => h) (Or.inl ⟨by rfl, ?_⟩) hHeld ?_ ?_
                              rotate_left
                              · rintro w' ⟨s0, s1, s2, s3, s4, s5⟩
                                go_simp
                                with_reducible rfl
                              rotate_left
                              · simp only [Act.put, List.setIfInBounds_toArray, List.set_cons_zero, List.set_cons_succ, i64_w, i32_w]
                                rfl
                              refine take_ (i := 6) (N := some 57) (v := ?_) (a' := ?_) #[true, true, true, true, true, true, true, false, false] rfl rfl (take_ofW HT_.out HW_.out (by kernel_rfl)) (fun _ _ _ h => h) (Or.inl ⟨by rfl, ?_⟩) hHeld ?_ ?_
                              rotate_left
                              · rintro w' ⟨s0, s1, s2, s3, s4, s5⟩
                                go_simp
                                with_reducible rfl
                              rotate_left
                              · simp only [Act.put, List.setIfInBounds_toArray, List.set_cons_zero, List.set_cons_succ, i64_w, i32_w]
                                rfl
                              refine one_ (i := 7) (N := some 58) #[true, true, true, true, true, true, true, true, false] rfl rfl (one_of HT_.out (by kernel_rfl)) (by decide) (fun K hK => ?_)
                              refine goes_ Try.func36 (by kernel_rfl) rfl #[.agg #[.int .i64 ((rd_T33 l0_1 (ji28)).f0), .int .i64 ((rd_T33 l0_1 (ji28)).f1)], .agg #[.int .i64 ((rd_T33 l0_1 x3_2).f0), .int .i64 ((rd_T33 l0_1 x3_2).f1)]] (by rfl) rfl rfl (by (try simp only [List.map_toArray, List.map_cons, List.map_nil]); first | done | (simp only [hji28]; rfl) | rfl | (simp only [List.length_drop, List.length_take]; rfl)) ?_
                              with_reducible refine (tangramref03_Less.calls ((rd_T33 l0_1 (ji28)).f0) ((rd_T33 l0_1 (ji28)).f1) ((rd_T33 l0_1 x3_2).f0) ((rd_T33 l0_1 x3_2).f1) true _ A31.out).mono ?_
                              rintro e w34 ⟨rfl, hb⟩
                              refine ⟨_, rfl, ?_⟩
                              have n0_ := Aside0.mk (blk_below (g := gb112) (o := .cells #[.int .i64 a0_0, .slice (some ad113) l0_1.length c0_1] 31 (0, 0)) (by (with_reducible repeat (first | refine blk_drewN ?_ _ | refine blk_drew ?_ | refine blk_alloc ?_ _)); exact BK112.out) hb)
                              have n1_ := Aside0.mk (blk_below (g := gb114) (o := .cells #[.int .i64 ((rd_T33 l0_1 x3_2).f0), .int .i64 ((rd_T33 l0_1 x3_2).f1)] 33 (0, 0)) (by (with_reducible repeat (first | refine blk_drewN ?_ _ | refine blk_drew ?_ | refine blk_alloc ?_ _)); exact BK114.out) hb)
                              have n2_ := Aside0.mk (below_step (by repeat (first | (with_reducible first | exact HB.out | apply below_alloc | apply pw_below_drewN | apply below_drew1 | refine below_set ?_ GE112.out | refine below_set ?_ GE114.out) | exact HB.out)) hb)
                              clear BK112
                              clear BK114
                              clear HB
                              have BK112 := n0_
                              have BK114 := n1_
                              have HB := n2_
                              clear n0_ n1_ n2_
                              (try clear hb)
                              (try clear hb2)
                              (try clear hk)
                              (try clear hi)
                              refine hK.out _ _ ⟨(blk_cell BK112.out 0).trans rfl, (blk_cell BK112.out 1).trans rfl, (blk_cell BK114.out 0).trans rfl, (blk_cell BK114.out 1).trans rfl, ((HB.out.cell (World.block_lt_of_cell? w _ hw115_0)).trans hw115_0), ((HB.out.cell (World.block_lt_of_cell? w _ hw115_1)).trans hw115_1)⟩ (fun hHeld => ?_)
                              clear hK K
                              refine norm_ (a' := ?_) ?_ ?_
                              rotate_left
                              · show Act.put _ (some 58) _ = _
                                simp only [Act.put, List.setIfInBounds_toArray, List.set_cons_zero, List.set_cons_succ, i64_w, i32_w]
                                rfl
                              refine pure_ (i := 8) (N := some 5) (v := ?_) (a' := ?_) #[true, true, true, true, true, true, true, true, true] rfl rfl (any_of HT_.out (by kernel_rfl)) (fun _ _ _ h => h) (Or.inl ⟨by rfl, ?_⟩) ?_ ?_
                              rotate_left
                              · intro w'
                                go_simp
                                with_reducible rfl
                              rotate_left
                              · simp only [Act.put, List.setIfInBounds_toArray, List.set_cons_zero, List.set_cons_succ, i64_w, i32_w]
                                rfl
                              refine done_ (done_of HT_.out (by kernel_rfl)) ?_
                              try go_wp2
                              go_roundg kj11
                              case measure => have := HJ1.out; have := HK2.out; have := HJ11.out; omega
                              case rel => exact ⟨(wrap64 (x3_2 + 1)), (by first | rfl | (simp; done) | (simp [*]; done)), H', ⟨by have := HJ1.out; have := HK2.out; have := HJ11.out; omega⟩, ⟨by (with_reducible repeat (first | refine blk_drewN ?_ _ | refine blk_drew ?_ | refine blk_alloc ?_ _)); exact BK112.out⟩, ⟨by repeat (first | (with_reducible first | exact HB.out | apply below_alloc | apply pw_below_drewN | apply below_drew1 | refine below_set ?_ GE112.out | refine below_set ?_ GE114.out) | exact HB.out)⟩⟩
                            · replace c32 := Bool.eq_false_iff.mpr c32
                              subst c32
                              have H1 : (some false) = some r := by rw [if_neg (show ¬ (false = true) by decide)] at H; exact H
                              clear H
                              have H := H1
                              clear H1
                              obtain rfl := Option.some.inj H
                              try go_wp2
                              have n0_ := Aside0.mk (blk_drew BK112.out)
                              have n1_ := Aside0.mk (blk_drew BK114.out)
                              have n2_ := Aside0.mk (below_drew1 HB.out)
                              clear BK112
                              clear BK114
                              clear HB
                              have BK112 := n0_
                              have BK114 := n1_
                              have HB := n2_
                              clear n0_ n1_ n2_
                              have p115 : 0 ≤ ((ji28) : Int) := of_decide_eq_true (by first | (with_reducible assumption) | assumption)
                              have q115 : (ji28) < (l0_1.length : Int) := of_decide_eq_true (by first | (with_reducible assumption) | assumption)
                              obtain ⟨ad115, e115, hx115_0, hx115_1⟩ := at_T33 HR0_1.out (ji28) p115 q115
                              have hw115_1 := hx115_1
                              have hw115_0 := hx115_0
                              obtain rfl : ad113 = ad115 := (by injection e115)
                              replace hx115_0 := (HB.out.cell (World.block_lt_of_cell? w _ hx115_0)).trans hx115_0
                              replace hx115_1 := (HB.out.cell (World.block_lt_of_cell? w _ hx115_1)).trans hx115_1
                              replace p115 := eq_true p115
                              replace q115 := eq_true q115
                              refine start_ (n := 9) (S := fun w' => w'.cell? ⟨gb112, 0, none⟩ = some (.int .i64 a0_0) ∧ w'.cell? ⟨gb112, 1, none⟩ = some (.slice (some ad113) l0_1.length c0_1) ∧ w'.cell? ⟨gb114, 0, none⟩ = some (.int .i64 ((rd_T33 l0_1 x3_2).f0)) ∧ w'.cell? ⟨gb114, 1, none⟩ = some (.int .i64 ((rd_T33 l0_1 x3_2).f1)) ∧ w'.cell? (ad113.add (((ji28)).toNat * 2)) = some (.int .i64 ((rd_T33 l0_1 (ji28)).f0)) ∧ w'.cell? ⟨(ad113.add (((ji28)).toNat * 2)).block, (ad113.add (((ji28)).toNat * 2)).off + 1, none⟩ = some (.int .i64 ((rd_T33 l0_1 (ji28)).f1))) (ds := []) #[false, false, false, false, false, false, false, false, false] (by kernel_rfl) rfl rfl ⟨(blk_cell BK112.out 0).trans rfl, (blk_cell BK112.out 1).trans rfl, (blk_cell BK114.out 0).trans rfl, (blk_cell BK114.out 1).trans rfl, ((HB.out.cell (World.block_lt_of_cell? w _ hw115_0)).trans hw115_0), ((HB.out.cell (World.block_lt_of_cell? w _ hw115_1)).trans hw115_1)⟩ (fun hHeld => ?_); refine with_tabW tangramref03_Valid.tab10 tangramref03_Valid.bits10 (fun HT_ HW_ => ?_)
                              generalize wc.drew = w35 at BK112 BK114 HB hx115_0 hx115_1 hHeld ⊢
                              refine pure_ (i := 0) (N := some 51) (v := ?_) (a' := ?_) #[true, false, false, false, false, false, false, false, false] rfl rfl (any_of HT_.out (by kernel_rfl)) (fun _ _ _ h => h) (Or.inl ⟨by rfl, ?_⟩) ?_ ?_
                              rotate_left
                              · intro w'
                                go_simp
                                with_reducible rfl
                              rotate_left
                              · simp only [Act.put, List.setIfInBounds_toArray, List.set_cons_zero, List.set_cons_succ, i64_w, i32_w]
                                rfl
                              refine pure_ (i := 2) (N := some 53) (v := ?_) (a' := ?_) #[true, false, true, false, false, false, false, false, false] rfl rfl (any_of HT_.out (by kernel_rfl)) (fun _ _ _ h => h) (Or.inl ⟨by rfl, ?_⟩) ?_ ?_
                              rotate_left
                              · intro w'
                                go_simp
                                with_reducible rfl
                              rotate_left
                              · simp only [Act.put, List.setIfInBounds_toArray, List.set_cons_zero, List.set_cons_succ, i64_w, i32_w]
                                rfl
                              refine pure_ (i := 3) (N := some 54) (v := ?_) (a' := ?_) #[true, false, true, true, false, false, false, false, false] rfl rfl (any_of HT_.out (by kernel_rfl)) (fun _ _ _ h => h) (Or.inl ⟨by rfl, ?_⟩) ?_ ?_
                              rotate_left
                              · intro w'
                                go_simp
                                with_reducible rfl
                              rotate_left
                              · simp only [Act.put, List.setIfInBounds_toArray, List.set_cons_zero, List.set_cons_succ, i64_w, i32_w]
                                rfl
                              refine take_ (i := 1) (N := some 52) (v := ?_) (a' := ?_) #[true, true, true, true, false, false, false, false, false] rfl rfl (take_ofW HT_.out HW_.out (by kernel_rfl)) (fun _ _ _ h => h) (Or.inl ⟨by rfl, ?_⟩) hHeld ?_ ?_
                              rotate_left
                              · rintro w' ⟨s0, s1, s2, s3, s4, s5⟩
                                go_simp
                                with_reducible rfl
                              rotate_left
                              · simp only [Act.put, List.setIfInBounds_toArray, List.set_cons_zero, List.set_cons_succ, i64_w, i32_w]
                                rfl
                              refine pure_ (i := 4) (N := some 55) (v := ?_) (a' := ?_) #[true, true, true, true, true, false, false, false, false] rfl rfl (any_of HT_.out (by kernel_rfl)) (fun _ _ _ h => h) (Or.inl ⟨by rfl, ?_⟩) ?_ ?_
                              rotate_left
                              · intro w'
                                go_simp
                                with_reducible rfl
                              rotate_left
                              · simp only [Act.put, List.setIfInBounds_toArray, List.set_cons_zero, List.set_cons_succ, i64_w, i32_w]
                                rfl
                              refine take_ (i := 5) (N := some 56) (v := ?_) (a' := ?_) #[true, true, true, true, true, true, false, false, false] rfl rfl (take_ofW HT_.out HW_.out (by kernel_rfl)) (fun _ _ _ h => h) (Or.inl ⟨by rfl, ?_⟩) hHeld ?_ ?_
                              rotate_left
                              · rintro w' ⟨s0, s1, s2, s3, s4, s5⟩
                                go_simp
                                with_reducible rfl
                              rotate_left
                              · simp only [Act.put, List.setIfInBounds_toArray, List.set_cons_zero, List.set_cons_succ, i64_w, i32_w]
                                rfl
                              refine take_ (i := 6) (N := some 57) (v := ?_) (a' := ?_) #[true, true, true, true, true, true, true, false, false] rfl rfl (take_ofW HT_.out HW_.out (by kernel_rfl)) (fun _ _ _ h => h) (Or.inl ⟨by rfl, ?_⟩) hHeld ?_ ?_
                              rotate_left
                              · rintro w' ⟨s0, s1, s2, s3, s4, s5⟩
                                go_simp
                                with_reducible rfl
                              rotate_left
                              · simp only [Act.put, List.setIfInBounds_toArray, List.set_cons_zero, List.set_cons_succ, i64_w, i32_w]
                                rfl
                              refine one_ (i := 7) (N := some 58) #[true, true, true, true, true, true, true, true, false] rfl rfl (one_of HT_.out (by kernel_rfl)) (by decide) (fun K hK => ?_)
                              refine goes_ Try.func36 (by kernel_rfl) rfl #[.agg #[.int .i64 ((rd_T33 l0_1 (ji28)).f0), .int .i64 ((rd_T33 l0_1 (ji28)).f1)], .agg #[.int .i64 ((rd_T33 l0_1 x3_2).f0), .int .i64 ((rd_T33 l0_1 x3_2).f1)]] (by rfl) rfl rfl (by (try simp only [List.map_toArray, List.map_cons, List.map_nil]); first | done | (simp only [hji28]; rfl) | rfl | (simp only [List.length_drop, List.length_take]; rfl)) ?_
                              with_reducible refine (tangramref03_Less.calls ((rd_T33 l0_1 (ji28)).f0) ((rd_T33 l0_1 (ji28)).f1) ((rd_T33 l0_1 x3_2).f0) ((rd_T33 l0_1 x3_2).f1) false _ A31.out).mono ?_
                              rintro e w36 ⟨rfl, hb⟩
                              refine ⟨_, rfl, ?_⟩
                              have n0_ := Aside0.mk (blk_below (g := gb112) (o := .cells #[.int .i64 a0_0, .slice (some ad113) l0_1.length c0_1] 31 (0, 0)) (by (with_reducible repeat (first | refine blk_drewN ?_ _ | refine blk_drew ?_ | refine blk_alloc ?_ _)); exact BK112.out) hb)
                              have n1_ := Aside0.mk (blk_below (g := gb114) (o := .cells #[.int .i64 ((rd_T33 l0_1 x3_2).f0), .int .i64 ((rd_T33 l0_1 x3_2).f1)] 33 (0, 0)) (by (with_reducible repeat (first | refine blk_drewN ?_ _ | refine blk_drew ?_ | refine blk_alloc ?_ _)); exact BK114.out) hb)
                              have n2_ := Aside0.mk (below_step (by repeat (first | (with_reducible first | exact HB.out | apply below_alloc | apply pw_below_drewN | apply below_drew1 | refine below_set ?_ GE112.out | refine below_set ?_ GE114.out) | exact HB.out)) hb)
                              clear BK112
                              clear BK114
                              clear HB
                              have BK112 := n0_
                              have BK114 := n1_
                              have HB := n2_
                              clear n0_ n1_ n2_
                              (try clear hb)
                              (try clear hb2)
                              (try clear hk)
                              (try clear hi)
                              refine hK.out _ _ ⟨(blk_cell BK112.out 0).trans rfl, (blk_cell BK112.out 1).trans rfl, (blk_cell BK114.out 0).trans rfl, (blk_cell BK114.out 1).trans rfl, ((HB.out.cell (World.block_lt_of_cell? w _ hw115_0)).trans hw115_0), ((HB.out.cell (World.block_lt_of_cell? w _ hw115_1)).trans hw115_1)⟩ (fun hHeld => ?_)
                              clear hK K
                              refine norm_ (a' := ?_) ?_ ?_
                              rotate_left
                              · show Act.put _ (some 58) _ = _
                                simp only [Act.put, List.setIfInBounds_toArray, List.set_cons_zero, List.set_cons_succ, i64_w, i32_w]
                                rfl
                              refine pure_ (i := 8) (N := some 5) (v := ?_) (a' := ?_) #[true, true, true, true, true, true, true, true, true] rfl rfl (any_of HT_.out (by kernel_rfl)) (fun _ _ _ h => h) (Or.inl ⟨by rfl, ?_⟩) ?_ ?_
                              rotate_left
                              · intro w'
                                go_simp
                                with_reducible rfl
                              rotate_left
                              · simp only [Act.put, List.setIfInBounds_toArray, List.set_cons_zero, List.set_cons_succ, i64_w, i32_w]
                                rfl
                              refine done_ (done_of HT_.out (by kernel_rfl)) ?_
                              try go_wp2
                              go_ret
                              exact ⟨by first | rfl | (simp [errW_none, errW_some] <;> rfl) | (simp only [← hji28]; first | rfl | (simp [errW_none, errW_some] <;> rfl)) | (simp [*, errW_none, errW_some] <;> rfl), by repeat (first | (with_reducible first | exact HB.out | apply below_alloc | apply pw_below_drewN | apply below_drew1 | refine below_set ?_ GE112.out | refine below_set ?_ GE114.out) | exact HB.out)⟩
                          · rw [if_neg c30] at H
                            exact absurd H (by simp)
                        · rw [if_neg c29] at H
                          exact absurd H (by simp)
                      · rw [if_neg c27] at H
                        have c27b0 : decide (0 < x3_2) = false := decide_eq_false c27
                        clear c27
                        have H' := Aside0.mk H
                        clear H
                        go_wp2
                        go_roundg kj11
                        case measure => have := HJ1.out; have := HK2.out; have := HJ11.out; omega
                        case rel => exact ⟨(wrap64 (x3_2 + 1)), (by first | rfl | (simp; done) | (simp [*]; done)), H', ⟨by have := HJ1.out; have := HK2.out; have := HJ11.out; omega⟩, ⟨by (with_reducible repeat (first | refine blk_drewN ?_ _ | refine blk_drew ?_ | refine blk_alloc ?_ _)); exact BK112.out⟩, ⟨by repeat (first | (with_reducible first | exact HB.out | apply below_alloc | apply pw_below_drewN | apply below_drew1 | refine below_set ?_ GE112.out | refine below_set ?_ GE114.out) | exact HB.out)⟩⟩
              · rw [if_neg c11] at H
                exact absurd H (by simp)
            · rw [if_neg c10] at H
              have c10b0 : decide (x3_2 < (l0_1.length : Int)) = false := decide_eq_false c10
              clear c10
              obtain rfl := Option.some.inj H
              have hcz37_0 : wr.cell? ⟨gb112, 0, none⟩ = some (.int .i64 a0_0) := (blk_cell BK112.out 0).trans rfl
              have hcz37_1 : wr.cell? ⟨gb112, 1, none⟩ = some (.slice A0_1 l0_1.length c0_1) := (blk_cell BK112.out 1).trans rfl
              have hfz37_0 := blk_frozen BK112.out 0
              have hfz37_1 := blk_frozen BK112.out 1
              go_wp2
              go_ret
              exact ⟨by first | rfl | (simp [errW_none, errW_some] <;> rfl) | (simp [*, errW_none, errW_some] <;> rfl), by repeat (first | (with_reducible first | exact HB.out | apply below_alloc | apply pw_below_drewN | apply below_drew1 | refine below_set ?_ GE112.out) | exact HB.out)⟩

end Go.Proofs.Ytoajoklpbfehiaa.GAll
/- DERIVED. What the printed forms of simple.Valid, tangramref03.Valid answer: one and the same, and when true. Degrees and both Isolated. -/


namespace Go.Proofs.Ytoajoklpbfehiaa.PureV
open Go.RowKit Go.Proofs.YtoajoklpbfehiaaW.PrintWords Go.Proofs.YtoajoklpbfehiaaW.PrintLast Go.Proofs.YtoajoklpbfehiaaW.PrintMore Go.Proofs.Ytoajoklpbfehiaa.GAll
set_option linter.unusedVariables false
set_option linter.unusedSimpArgs false
abbrev E := S33
abbrev rdE := rd_T33
/-- an edge's numbers are right -/
def okE (n : Int) (x : E) : Prop := 0 ≤ x.f0 ∧ x.f0 < x.f1 ∧ x.f1 < n
def lt (x y : E) : Prop := x.f0 < y.f0 ∨ (x.f0 = y.f0 ∧ x.f1 < y.f1)
def Ok (n : Int) (l : List E) (i : Nat) : Prop := okE n (rdE l (i : Nat)) ∧ (0 < i → lt (rdE l ((i - 1 : Nat) : Int)) (rdE l (i : Nat)))
def Good (n : Int) (l : List E) : Prop := 0 ≤ n ∧ n ≤ 1048576 ∧ l.length ≤ 4194304 ∧ ∀ i, i < l.length → Ok n l i
instance (n x) : Decidable (okE n x) := by unfold okE; infer_instance
instance (x y) : Decidable (lt x y) := by unfold lt; infer_instance
instance (n l i) : Decidable (Ok n l i) := by unfold Ok; infer_instance
theorem wadd {i : Nat} (h : i ≤ 9000000) : wrap64 ((i : Int) + 1) = ((i + 1 : Nat) : Int) := by rw [IntWalk.wrap64_in _ (by omega)]; omega
theorem wsub {i : Nat} (h : i ≤ 9000000) (h0 : 0 < i) : wrap64 ((i : Int) - 1) = ((i - 1 : Nat) : Int) := by rw [IntWalk.wrap64_in _ (by omega)]; omega
theorem s_step {n : Int} {l : List E} {i : Nat} (hn : 0 ≤ n ∧ n ≤ 1048576) (hl : l.length ≤ 4194304) (hi : i < l.length) (hp : ∀ j, j < i → Ok n l j) (k : Nat) :
    simple_Valid.l0 (k + 1) l (l.length : Int) (i : Int) n l = if Ok n l i then simple_Valid.l0 k l (l.length : Int) ((i + 1 : Nat) : Int) n l else some false := by
  simp only [simple_Valid.l0]
  rw [if_pos (show (i : Int) < (l.length : Int) by omega), if_pos (show (0 : Int) ≤ (i : Int) by omega), if_pos (show (i : Int) < (l.length : Int) by omega), wadd (by omega)]
  change (if (rdE l (i : Nat)).f0 < 0 then _ else _) = _
  by_cases c1 : (rdE l (i : Nat)).f0 < 0
  · rw [if_pos c1, if_neg (fun h => by have := h.1.1; omega)]
  rw [if_neg c1]
  by_cases c2 : (rdE l (i : Nat)).f0 ≥ (rdE l (i : Nat)).f1
  · rw [if_pos c2, if_neg (fun h => by have := h.1.2.1; omega)]
  rw [if_neg c2]
  by_cases c3 : (rdE l (i : Nat)).f1 ≥ n
  · rw [if_pos c3, if_neg (fun h => by have := h.1.2.2; omega)]
  rw [if_neg c3]
  by_cases c4 : 0 < i
  · rw [if_pos (show (i : Int) > 0 by omega), wsub (by omega) c4, if_pos (by omega), if_pos (by omega)]
    have hq := (hp (i - 1) (by omega)).1
    unfold okE at hq
    change (simple_compare.f (rdE l ((i - 1 : Nat) : Int)).f0 (rdE l ((i - 1 : Nat) : Int)).f1 (rdE l (i : Nat)).f0 (rdE l (i : Nat)).f1).bind _ = _
    have hOk : Ok n l i ↔ lt (rdE l ((i - 1 : Nat) : Int)) (rdE l (i : Nat)) := ⟨fun h => h.2 c4, fun h => ⟨⟨by omega, by omega, by omega⟩, fun _ => h⟩⟩
    unfold simple_compare.f
    by_cases c5 : (rdE l ((i - 1 : Nat) : Int)).f0 = (rdE l (i : Nat)).f0
    · rw [if_pos c5, Option.bind_some, IntWalk.wrap64_in _ (by omega)]
      by_cases c6 : lt (rdE l ((i - 1 : Nat) : Int)) (rdE l (i : Nat))
      · rw [if_pos (hOk.2 c6), if_neg (by unfold lt at c6; omega)]
      · rw [if_neg (fun h => c6 (hOk.1 h)), if_pos (by unfold lt at c6; omega)]
    · rw [if_neg c5, Option.bind_some, IntWalk.wrap64_in _ (by omega)]
      by_cases c6 : lt (rdE l ((i - 1 : Nat) : Int)) (rdE l (i : Nat))
      · rw [if_pos (hOk.2 c6), if_neg (by unfold lt at c6; omega)]
      · rw [if_neg (fun h => c6 (hOk.1 h)), if_pos (by unfold lt at c6; omega)]
  · rw [if_neg (by omega), if_pos (show Ok n l i from ⟨⟨by omega, by omega, by omega⟩, fun h => absurd h c4⟩)]
theorem r_step {n : Int} {l : List E} {i : Nat} (hn : 0 ≤ n ∧ n ≤ 1048576) (hl : l.length ≤ 4194304) (hi : i < l.length) (hp : ∀ j, j < i → Ok n l j) (k : Nat) :
    tangramref03_Valid.l0 (k + 2) (i : Int) n l = if Ok n l i then tangramref03_Valid.l0 k ((i + 1 : Nat) : Int) n l else some false := by
  simp only [tangramref03_Valid.l0, tangramref03_Valid.j2]
  rw [if_pos (show (i : Int) < (l.length : Int) by omega), if_pos (show (0 : Int) ≤ (i : Int) by omega), wadd (by omega)]
  change (if (rdE l (i : Nat)).f0 < 0 then _ else _) = _
  by_cases c1 : (rdE l (i : Nat)).f0 < 0
  · rw [if_pos c1, if_pos trivial, if_neg (fun h => by have := h.1.1; omega)]
  rw [if_neg c1]
  by_cases c2 : (rdE l (i : Nat)).f0 ≥ (rdE l (i : Nat)).f1
  · rw [if_pos c2, if_pos trivial, if_neg (fun h => by have := h.1.2.1; omega)]
  rw [if_neg c2]
  by_cases c3 : (rdE l (i : Nat)).f1 ≥ n
  · rw [if_pos (decide_eq_true c3), if_neg (fun h => by have := h.1.2.2; omega)]
  rw [if_neg (by simpa using c3)]
  by_cases c4 : 0 < i
  · rw [if_pos (show (i : Int) > 0 by omega), wsub (by omega) c4, if_pos (by omega), if_pos (by omega)]
    change (tangramref03_Less.f (rdE l ((i - 1 : Nat) : Int)).f0 (rdE l ((i - 1 : Nat) : Int)).f1 (rdE l (i : Nat)).f0 (rdE l (i : Nat)).f1).bind _ = _
    have hOk : Ok n l i ↔ lt (rdE l ((i - 1 : Nat) : Int)) (rdE l (i : Nat)) := ⟨fun h => h.2 c4, fun h => ⟨⟨by omega, by omega, by omega⟩, fun _ => h⟩⟩
    have hL : tangramref03_Less.f (rdE l ((i - 1 : Nat) : Int)).f0 (rdE l ((i - 1 : Nat) : Int)).f1 (rdE l (i : Nat)).f0 (rdE l (i : Nat)).f1 = some (decide (Ok n l i)) := by
      unfold tangramref03_Less.f
      by_cases c5 : (rdE l ((i - 1 : Nat) : Int)).f0 < (rdE l (i : Nat)).f0
      · rw [if_pos c5, decide_eq_true (hOk.2 (Or.inl c5))]
      rw [if_neg c5]
      by_cases c6 : (rdE l ((i - 1 : Nat) : Int)).f0 = (rdE l (i : Nat)).f0
      · rw [if_pos c6]
        congr 1
        rw [decide_eq_decide, hOk]
        unfold lt
        omega
      · rw [if_neg c6, decide_eq_false (fun h => by have := hOk.1 h; unfold lt at this; omega)]
    rw [hL, Option.bind_some]
    by_cases c : Ok n l i
    · rw [if_pos c, if_pos (decide_eq_true c)]
    · rw [if_neg c, if_neg (by simpa using c)]
  · rw [if_neg (by omega), if_pos (show Ok n l i from ⟨⟨by omega, by omega, by omega⟩, fun h => absurd h c4⟩)]
theorem loops {n : Int} {l : List E} (hn : 0 ≤ n ∧ n ≤ 1048576) (hl : l.length ≤ 4194304) (d : Nat) : ∀ i : Nat, i + d = l.length → (∀ j, j < i → Ok n l j) →
    ∃ b : Bool, Ev (fun k => simple_Valid.l0 k l (l.length : Int) (i : Int) n l) b ∧ Ev (fun k => tangramref03_Valid.l0 k (i : Int) n l) b ∧ (b = true ↔ ∀ j, j < l.length → Ok n l j) := by
  induction d with
  | zero =>
    intro i hi hp
    refine ⟨true, Ev.step (f := fun _ => some true) (fun k => ?_) (Ev.now _), Ev.step (f := fun _ => some true) (fun k => ?_) (Ev.now _), fun _ j hj => hp j (by omega), fun _ => rfl⟩
    · simp only [simple_Valid.l0]
      rw [if_neg (by omega)]
    · simp only [tangramref03_Valid.l0]
      rw [if_neg (by omega)]
  | succ d ih =>
    intro i hi hp
    by_cases c : Ok n l i
    · obtain ⟨b, h1, h2, h3⟩ := ih (i + 1) (by omega) (fun j hj => by
        rcases Nat.lt_or_ge j i with h | h
        · exact hp j h
        · obtain rfl : j = i := by omega
          exact c)
      refine ⟨b, Ev.step (fun k => (s_step hn hl (by omega) hp k).trans (if_pos c)) h1, ?_, h3⟩
      obtain ⟨K, h2⟩ := h2
      refine ⟨K + 2, fun k hk => ?_⟩
      obtain ⟨m, rfl⟩ : ∃ m, k = m + 2 := ⟨k - 2, by omega⟩
      show tangramref03_Valid.l0 (m + 2) _ _ _ = _
      rw [r_step hn hl (by omega) hp m, if_pos c]
      exact h2 m (by omega)
    · refine ⟨false, Ev.step (f := fun _ => some false) (fun k => (s_step hn hl (by omega) hp k).trans (if_neg c)) (Ev.now _), ⟨2, fun k hk => ?_⟩, ⟨fun h => (by cases h), fun h => absurd (h i (by omega)) c⟩⟩
      obtain ⟨m, rfl⟩ : ∃ m, k = m + 2 := ⟨k - 2, by omega⟩
      show tangramref03_Valid.l0 (m + 2) _ _ _ = _
      rw [r_step hn hl (by omega) hp m, if_neg c]
/-- Both Valid answer the same, and true for the good alone. -/
theorem valid (n : Int) (l : List E) : ∃ b : Bool, Ev (fun k => simple_Valid.f k n l) b ∧ Ev (fun k => tangramref03_Valid.f k n l) b ∧ (b = true ↔ Good n l) := by
  by_cases c1 : n < 0
  · refine ⟨false, Ev.step (f := fun _ => some false) (fun k => ?_) (Ev.now _), Ev.step (f := fun _ => some false) (fun k => ?_) (Ev.now _), ⟨fun h => (by cases h), fun h => by have := h.1; omega⟩⟩
    · simp only [simple_Valid.f, if_pos c1, simple_Valid.j0]; rfl
    · simp only [tangramref03_Valid.f, if_pos c1, tangramref03_Valid.j0]; rfl
  by_cases c2 : n > 1048576
  · refine ⟨false, Ev.step (f := fun _ => some false) (fun k => ?_) (Ev.now _), Ev.step (f := fun _ => some false) (fun k => ?_) (Ev.now _), ⟨fun h => (by cases h), fun h => by have := h.2.1; omega⟩⟩
    · simp only [simple_Valid.f, if_neg c1, if_pos c2, simple_Valid.j0]; rfl
    · simp only [tangramref03_Valid.f, if_neg c1, if_pos c2, tangramref03_Valid.j0]; rfl
  by_cases c3 : (l.length : Int) > 4194304
  · refine ⟨false, Ev.step (f := fun _ => some false) (fun k => ?_) (Ev.now _), Ev.step (f := fun _ => some false) (fun k => ?_) (Ev.now _), ⟨fun h => (by cases h), fun h => by have := h.2.2.1; omega⟩⟩
    · simp only [simple_Valid.f, if_neg c1, if_neg c2, simple_Valid.j0, decide_eq_true c3]; rfl
    · simp only [tangramref03_Valid.f, if_neg c1, if_neg c2, tangramref03_Valid.j0, decide_eq_true c3]; rfl
  obtain ⟨b, h1, h2, h3⟩ := loops (n := n) (l := l) ⟨by omega, by omega⟩ (by omega) l.length 0 (by omega) (fun j hj => by omega)
  refine ⟨b, Ev.step (fun k => ?_) h1, Ev.step (fun k => ?_) h2, h3.trans ⟨fun h => ⟨by omega, by omega, by omega, h⟩, fun h => h.2.2.2⟩⟩
  · simp only [simple_Valid.f, if_neg c1, if_neg c2, simple_Valid.j0, decide_eq_false c3]; rfl
  · simp only [tangramref03_Valid.f, if_neg c1, if_neg c2, tangramref03_Valid.j0, decide_eq_false c3]; rfl
end Go.Proofs.Ytoajoklpbfehiaa.PureV
/- DERIVED. What came in, opened: a datum that is read tells a value of a kind (the kit's printer's kinds), its numbers in their bounds, its lists no longer than the form's reach. -/







namespace Go.Proofs.Ytoajoklpbfehiaa.Open
open Go.RowKit Go.Proofs.YtoajoklpbfehiaaW.PrintWords Go.Proofs.YtoajoklpbfehiaaW.PrintLast Go.Proofs.YtoajoklpbfehiaaW.PrintMore Go.ChangeShapes Go.WideShapes Go.Deep
set_option linter.unusedVariables false
set_option linter.unusedSimpArgs false

/-- a number of its kind -/
def I64 (n : Int) : Prop := -9223372036854775808 ≤ n ∧ n ≤ 9223372036854775807
/-- every reading of a value of type t tells a value of kind d -/
def Opens {α : Type} (P : Program) (t : TypeId) (d : Kd α) (good : α → Prop) : Prop :=
  ∀ {H : Type} (enc : TypeId × Value → H) (w : World) (fuel : Nat) (cs : List Value) (x : DataW H × List MemPlace),
    DataW.trod enc P w 0 (fun _ => true) true fuel t cs = some x → (x.1.weights P t).all (· ≤ reachBytes) = true → ∃ v, d.K w v cs ∧ good v
section
variable {P : Program} {α β : Type}
theorem opens_int {t : TypeId} (ht : P.underlying t = some (.int .i64)) : Opens P t (Kd.int .i64) I64 := by
  intro H enc w fuel cs x h _
  obtain ⟨n, rfl, _, hw⟩ := DataW.trod_int ht h
  refine ⟨n, rfl, ?_⟩
  have hmin : IntKind.i64.min = -9223372036854775808 := rfl
  have hmax : IntKind.i64.max = 9223372036854775807 := rfl
  simp only [Lit.wf, Bool.and_eq_true, decide_eq_true_eq] at hw
  unfold I64; omega
theorem weightsAll_mem {H : Type} {e : TypeId} {l : List (DataW H)} (h : (DataW.weightsAll P e l).all (· ≤ reachBytes) = true) {d : DataW H} (hd : d ∈ l) : (d.weights P e).all (· ≤ reachBytes) = true := by
  induction l with
  | nil => cases hd
  | cons a l ih =>
    unfold DataW.weightsAll at h
    rw [List.all_append, Bool.and_eq_true] at h
    rcases List.mem_cons.1 hd with rfl | hd
    · exact h.1
    · exact ih h.2 hd
theorem opens_slice {t e : TypeId} {d : Kd α} {good : α → Prop} {B : Nat} (ht : P.underlying t = some (.slice e)) (hc : P.cellsOf e = d.sz) (hB : P.bytesOf e = B) (ho : Opens P e d good) (dflt : α) :
    Opens P t (Kd.slice e d) (fun xs => xs.length * B ≤ 140737488351232 ∧ ∀ x ∈ xs, good x) := by
  intro H enc w fuel cs x h hwt
  rcases open_slice ht h with ⟨rfl, rfl⟩ | ⟨a, len, cap, m, n, D, Pl, rfl, hb, hl, hm, hmm, rfl, hx⟩
  · exact ⟨[], ⟨none, 0, rfl, Nat.le_refl _, rfl, by simp, fun h => absurd h (by simp)⟩, by simp, by simp⟩
  · simp only [if_true] at hmm
    subst hmm
    unfold DataW.weights at hwt
    rw [ht] at hwt
    simp only [List.all_cons, List.all_append, Bool.and_eq_true, decide_eq_true_eq, List.length_map, List.length_range, hB] at hwt
    obtain ⟨hw1, hw2, _⟩ := hwt
    have each : ∀ i, i < len → ∃ v : α × List Value, v.2.length = d.sz ∧ d.K w v.1 v.2 ∧ good v.1 ∧ ∀ k u, v.2[k]? = some u → w.cell? (a.add (i * d.sz + k)) = some u := by
      intro i hi
      obtain ⟨cs', h1, h2⟩ := hx i (by omega)
      rw [hc] at h1
      obtain ⟨_, hlen, hcell⟩ := World.cells?_some h1
      obtain ⟨v, hv, hg⟩ := ho enc w n cs' _ h2 (weightsAll_mem hw2 (List.mem_map.2 ⟨i, List.mem_range.2 hi, rfl⟩))
      refine ⟨(v, cs'), hlen, hv, hg, fun k u hk => ?_⟩
      have hk2 : k < d.sz := by
        have hk3 : k < cs'.length := (List.getElem?_eq_some_iff.1 hk).1
        omega
      have := hcell k hk2
      rw [Go.Deep.add_add] at this
      rw [this]; exact hk
    haveI : Inhabited (α × List Value) := ⟨(dflt, [])⟩
    obtain ⟨q, hq⟩ := choose_lt each
    have hlen : ((List.range len).map fun i => (q i).1).length = len := by simp
    have hget : ∀ j p, ((List.range len).map fun i => (q i).1)[j]? = some p → j < len ∧ p = (q j).1 := by
      intro j p hj
      rw [List.getElem?_map] at hj
      by_cases hjl : j < len
      · rw [List.getElem?_range hjl] at hj
        exact ⟨hjl, by simpa using hj.symm⟩
      · rw [List.getElem?_eq_none (by simp; omega)] at hj; simp at hj
    refine ⟨(List.range len).map fun i => (q i).1, ⟨some a, m, by rw [hlen], by rw [hlen]; exact hl, by rw [hlen], ?_, fun _ => ⟨a, rfl, fun j p hj => ?_⟩⟩, ?_, ?_⟩
    · rw [hlen]; unfold maxLen at hm; omega
    · obtain ⟨hjl, rfl⟩ := hget j p hj
      exact ⟨(q j).2, (hq j hjl).1, (hq j hjl).2.1, (hq j hjl).2.2.2⟩
    · rw [hlen]
      have h5 : len * B ≤ (len + (m - len)) * B := Nat.mul_le_mul_right _ (by omega)
      have h6 : reachBytes = 140737488351232 := rfl
      omega
    · intro v hv
      obtain ⟨i, hi, rfl⟩ := List.mem_map.1 hv
      exact (hq i (List.mem_range.1 hi)).2.2.1
theorem opens_two {t : TypeId} {f0 f1 : Field} {a : Kd α} {b : Kd β} {ga : α → Prop} {gb : β → Prop} (ht : P.underlying t = some (.struct #[f0, f1])) (h0 : Opens P f0.type a ga) (h1 : Opens P f1.type b gb)
    (o0 : f0.offset = 0) (o1 : f1.offset = a.sz) (c0 : P.cellsOf f0.type = a.sz) (c1 : P.cellsOf f1.type = b.sz) (ct : P.cellsOf t = a.sz + b.sz) : Opens P t (Kd.pair a b) (fun x => ga x.1 ∧ gb x.2) := by
  intro H enc w fuel cs x h hwt
  obtain ⟨xs, n, _, rfl, hcl, hxl, hf⟩ := DataW.trod_struct ht h
  match xs, hxl with
  | [y0, y1], _ =>
    have g0 := hf 0 f0 rfl
    have g1 := hf 1 f1 rfl
    rw [o0, c0] at g0
    rw [o1, c1] at g1
    unfold DataW.weights at hwt
    rw [ht] at hwt
    simp only [List.map_cons, List.map_nil, DataW.weightsEach, List.all_append, Bool.and_eq_true] at hwt
    obtain ⟨hw0, hw1, _⟩ := hwt
    rw [List.drop_zero] at g0
    obtain ⟨v0, k0, q0⟩ := h0 enc w n _ y0 g0 hw0
    obtain ⟨v1, k1, q1⟩ := h1 enc w n _ y1 g1 hw1
    refine ⟨(v0, v1), ⟨_, _, ?_, k0, k1⟩, q0, q1⟩
    rw [List.take_of_length_le (l := cs.drop a.sz) (by rw [List.length_drop]; omega), List.take_append_drop]
theorem split_four {γ : Type} (cs : List γ) (a b c d : Nat) (h : cs.length = a + b + c + d) : cs = cs.take a ++ ((cs.drop a).take b ++ ((cs.drop (a + b)).take c ++ (cs.drop (a + b + c)).take d)) := by
  have h1 : (cs.drop (a + b + c)).take d = cs.drop (a + b + c) := List.take_of_length_le (by rw [List.length_drop]; omega)
  have h2 : cs.drop (a + b) = (cs.drop (a + b)).take c ++ cs.drop (a + b + c) := by rw [← List.drop_drop (l := cs) (i := c) (j := a + b), List.take_append_drop]
  have h3 : cs.drop a = (cs.drop a).take b ++ cs.drop (a + b) := by rw [← List.drop_drop (l := cs) (i := b) (j := a), List.take_append_drop]
  rw [h1, ← h2, ← h3, List.take_append_drop]
theorem opens_four {γ δ : Type} {t : TypeId} {f0 f1 f2 f3 : Field} {a : Kd α} {b : Kd β} {c : Kd γ} {d : Kd δ} {ga : α → Prop} {gb : β → Prop} {gc : γ → Prop} {gd : δ → Prop} (ht : P.underlying t = some (.struct #[f0, f1, f2, f3])) (h0 : Opens P f0.type a ga) (h1 : Opens P f1.type b gb) (h2 : Opens P f2.type c gc) (h3 : Opens P f3.type d gd)
    (o0 : f0.offset = 0) (o1 : f1.offset = a.sz) (o2 : f2.offset = a.sz + b.sz) (o3 : f3.offset = a.sz + b.sz + c.sz) (c0 : P.cellsOf f0.type = a.sz) (c1 : P.cellsOf f1.type = b.sz) (c2 : P.cellsOf f2.type = c.sz) (c3 : P.cellsOf f3.type = d.sz) (ct : P.cellsOf t = a.sz + b.sz + c.sz + d.sz) : Opens P t (Kd.pair a (Kd.pair b (Kd.pair c d))) (fun x => ga x.1 ∧ gb x.2.1 ∧ gc x.2.2.1 ∧ gd x.2.2.2) := by
  intro H enc w fuel cs x h hwt
  obtain ⟨xs, n, _, rfl, hcl, hxl, hf⟩ := DataW.trod_struct ht h
  match xs, hxl with
  | [y0, y1, y2, y3], _ =>
    have g0 := hf 0 f0 rfl
    have g1 := hf 1 f1 rfl
    have g2 := hf 2 f2 rfl
    have g3 := hf 3 f3 rfl
    rw [o0, c0] at g0
    rw [o1, c1] at g1
    rw [o2, c2] at g2
    rw [o3, c3] at g3
    unfold DataW.weights at hwt
    rw [ht] at hwt
    simp only [List.map_cons, List.map_nil, DataW.weightsEach, List.all_append, Bool.and_eq_true] at hwt
    obtain ⟨hw0, hw1, hw2, hw3, _⟩ := hwt
    rw [List.drop_zero] at g0
    obtain ⟨v0, k0, q0⟩ := h0 enc w n _ y0 g0 hw0
    obtain ⟨v1, k1, q1⟩ := h1 enc w n _ y1 g1 hw1
    obtain ⟨v2, k2, q2⟩ := h2 enc w n _ y2 g2 hw2
    obtain ⟨v3, k3, q3⟩ := h3 enc w n _ y3 g3 hw3
    refine ⟨(v0, v1, v2, v3), ⟨_, _, ?_, k0, _, _, rfl, k1, _, _, rfl, k2, k3⟩, q0, q1, q2, q3⟩
    exact split_four cs _ _ _ _ (by omega)
theorem opens_iso {t : TypeId} {d : Kd α} {good : α → Prop} {f : β → α} (g : α → β) (hg : ∀ x, f (g x) = x) (h : Opens P t d good) : Opens P t (Kd.iso d f) (fun y => good (f y)) := by
  intro H enc w fuel cs x hx hw
  obtain ⟨v, k, q⟩ := h enc w fuel cs x hx hw
  exact ⟨g v, by show d.K w (f (g v)) cs; rw [hg]; exact k, by show good (f (g v)); rw [hg]; exact q⟩
/-- an argument -/
theorem open_arg {H : Type} {enc : TypeId × Value → H} {w : World} {t : TypeId} {d : Kd α} {good : α → Prop} {v : Value} {dd : DataW H} {ps : List MemPlace} (ho : Opens P t d good) (h : DataW.Trod enc P w 0 (fun _ => true) true t v dd ps)
    (hw : (dd.weights P t).all (· ≤ reachBytes) = true) : ∃ x, d.K w x v.cells.toList ∧ good x := by
  obtain ⟨fuel, hf⟩ := h
  exact ho enc w fuel _ _ hf hw
/-- the weights of the j-th argument -/
theorem weight_at {H : Type} {ts : List TypeId} {ds : List (DataW H)} (h : (DataW.weightsEach P ts ds).all (· ≤ reachBytes) = true) : ∀ {j : Nat} {t : TypeId} {d : DataW H}, ts[j]? = some t → ds[j]? = some d → (d.weights P t).all (· ≤ reachBytes) = true := by
  induction ts generalizing ds with
  | nil => intro j t d ht; simp at ht
  | cons a ts ih =>
    cases ds with
    | nil => intro j t d _ hd; simp at hd
    | cons b ds =>
      unfold DataW.weightsEach at h
      rw [List.all_append, Bool.and_eq_true] at h
      intro j t d ht hd
      cases j with
      | zero =>
        obtain rfl : a = t := by simpa using ht
        obtain rfl : b = d := by simpa using hd
        exact h.1
      | succ j => exact ih h.2 (by simpa using ht) (by simpa using hd)
theorem of_slice {w : World} {e : Nat} {d : Kd α} {xs : List α} {A : Option Addr} {n c : Nat} (h : (Kd.slice e d).K w xs [.slice A n c]) : n = xs.length ∧ xs.length ≤ c ∧ d.C w A xs.length xs := by
  obtain ⟨A', c', he, hl, hc⟩ := h
  simp only [List.cons.injEq, Value.slice.injEq, and_true] at he
  obtain ⟨rfl, rfl, rfl⟩ := he
  exact ⟨rfl, hl, hc⟩
end
end Go.Proofs.Ytoajoklpbfehiaa.Open
/- DERIVED. The law CompsPaths, walked. -/







namespace Go.Proofs.Ytoajoklpbfehiaa.PureX
open Go.RowKit Go.Proofs.YtoajoklpbfehiaaW.PrintWords Go.Proofs.YtoajoklpbfehiaaW.PrintLast Go.Proofs.YtoajoklpbfehiaaW.PrintMore Go.Proofs.Ytoajoklpbfehiaa.GAll Go.Proofs.Ytoajoklpbfehiaa.Sets
set_option linter.unusedVariables false
set_option linter.unusedSimpArgs false
/-- by vertex the number of its component -/
def num (m : List Nat) (v : Nat) : Nat := PureR.roots m (gt m v)
section
variable {n : Nat} {E : Nat → Nat → Prop} {m : List Nat}
theorem rd_num (h : Part n E m) {v : Nat} (hv : v < n) : rd (ints (numTo m n).1) (v : Int) = (num m v : Int) := by
  rw [PureR.rd_ints, PureR.num_at h n (Nat.le_refl _) v hv]
  rfl
theorem num_iff (h : Part n E m) {u v : Nat} (hu : u < n) (hv : v < n) : num m u = num m v ↔ Conn E u v := by
  rw [← h.iff hu hv]
  constructor
  · intro e
    exact PureR.roots_inj m (h.idem hu) (h.idem hv) e
  · intro e
    unfold num
    rw [e]
theorem num_le (h : Part n E m) {v : Nat} (hv : v < n) : num m v ≤ PureR.roots m v := PureR.roots_mono m (h.le v hv)
theorem num_lt (h : Part n E m) {v : Nat} (hv : v < n) : num m v < PureR.roots m n := PureR.roots_lt (h.lt hv) (h.idem hv)
theorem num_new (h : Part n E m) {v : Nat} (hv : v < n) (hr : gt m v = v) : num m v = PureR.roots m v ∧ PureR.roots m (v + 1) = PureR.roots m v + 1 := by
  unfold num
  rw [PureR.roots_succ, hr]
  simp
theorem num_old (h : Part n E m) {v : Nat} (hv : v < n) (hr : gt m v ≠ v) : num m v < PureR.roots m v ∧ PureR.roots m (v + 1) = PureR.roots m v := by
  have h1 := h.le v hv
  have h2 := PureR.roots_lt (m := m) (n := v) (show gt m v < v by omega) (h.idem hv)
  rw [PureR.roots_succ, if_neg hr]
  exact ⟨h2, rfl⟩
theorem roots_sets (h : Part n E m) : PureR.roots m n = sets m := by
  unfold PureR.roots sets
  rw [h.len]
end
theorem good_in {n : Nat} {l : List PureV.E} (hg : PureV.Good (n : Int) l) : ∀ i, i < (l.map fun x => (x.f0, x.f1)).length → ∃ a b : Nat, pe (l.map fun x => (x.f0, x.f1)) i = ((a : Int), (b : Int)) ∧ a < n ∧ b < n ∧ a ≠ b := by
  intro i hi
  rw [List.length_map] at hi
  obtain ⟨⟨h1, h2, h3⟩, _⟩ := hg.2.2.2 i hi
  have e : PureV.rdE l (i : Nat) = l[i] := by
    show l.getD ((i : Int).toNat) _ = _
    rw [Int.toNat_natCast, List.getD_eq_getElem?_getD, List.getElem?_eq_getElem hi]
    rfl
  rw [e] at h1 h2 h3
  have e2 : pe (l.map fun x => (x.f0, x.f1)) i = (l[i].f0, l[i].f1) := by unfold pe; simp [List.getD_eq_getElem?_getD, hi]
  refine ⟨l[i].f0.toNat, l[i].f1.toNat, ?_, by omega, by omega, by omega⟩
  rw [e2]
  rw [Int.toNat_of_nonneg h1, Int.toNat_of_nonneg (by omega)]
theorem of_no_f {n : Int} {l : List PureV.E} {k : Nat} (h : simple_Valid.f k n l = some false) : comps_Of.f k n l = some ([], 0, 1) := by
  unfold comps_Of.f
  rw [h]
  rfl
theorem of_yes_f {n : Nat} {l : List PureV.E} {k : Nat} (h : simple_Valid.f k (n : Int) l = some true) (hn : n ≤ 1048576) : comps_Of.f k (n : Int) l = some (ints (numTo (joinAll (List.range n) (l.map fun x => (x.f0, x.f1))) n).1, ((sets (joinAll (List.range n) (l.map fun x => (x.f0, x.f1))) : Nat) : Int), 0) := by
  unfold comps_Of.f
  rw [h]
  simp only [Option.bind_some, if_true]
  rw [if_pos ⟨by omega, by omega⟩]
  have e := numTo_all (joinAll_part n (l.map fun x => (x.f0, x.f1)))
  rw [(joinAll_part n (l.map fun x => (x.f0, x.f1))).len] at e
  unfold comps_Of.out
  rw [Int.toNat_natCast, e]
  rfl

set_option maxHeartbeats 4000000 in
set_option maxRecDepth 100000 in
theorem paths_no (n : Int) (A : Option Addr) (c : Nat) (l : List PureV.E) (U V : Int) (w : World) (hr : Kd.C k33 w A l.length l) (hc : l.length ≤ c) (k : Nat) (h1 : simple_Valid.f k n l = some false) (h2 : tangramref03_Valid.f k n l = some false) :
    Calls Try.prog 4 #[.agg #[.int .i64 n, .slice A l.length c], .agg #[.int .i64 U, .int .i64 V]] w fun e w' => e = .returned (.bool true) ∧ Below w.heap.size w w' := by
  have hlen : l.length ≤ 9223372036854775807 := C_le hr
  have HB := Aside0.mk (((Below.refl w.heap.size w).alloc (Nat.le_refl _) (.cells #[.int .i64 n, .slice A l.length c] 31 (0, 0))).alloc (by simp) (.cells #[.int .i64 U, .int .i64 V] 33 (0, 0)))
  have HX := Aside0.mk (heap_old (heap_last w (.cells #[.int .i64 n, .slice A l.length c] 31 (0, 0))) (.cells #[.int .i64 U, .int .i64 V] 33 (0, 0)))
  have HR := Aside0.mk hr
  have H1 := Aside0.mk (of_no_f h1)
  have H2 := Aside0.mk h2
  clear hr h1 h2
  go_enter Try.func4, Try.ntmps4
  go_wp2_with fail
  refine (tangramlaw05_fixed.calls true _ rfl).mono ?_
  rintro e w1 ⟨rfl, hb⟩
  have HB1 := Aside0.mk (HB.out.trans (hb.mono (by simp; omega)))
  have HX1 := Aside0.mk ((hb.block w.heap.size (by simp; omega)).trans HX.out)
  clear hb HB HX
  have x0 : w1.cell? ⟨w.heap.size, 0, none⟩ = some (.int .i64 n) := (blk_cell HX1.out 0).trans rfl
  have x1 : w1.cell? ⟨w.heap.size, 1, none⟩ = some (.slice A l.length c) := (blk_cell HX1.out 1).trans rfl
  go_wp2_with fail
  refine (comps_Of.calls k n A c l _ _ _ _ (Kd.C_below HR.out HB1.out) hc H1.out).mono ?_
  rintro e w2 ⟨v2, rfl, hR, hb⟩
  have HB2 := Aside0.mk (HB1.out.trans (hb.mono HB1.out.size))
  have HX2 := Aside0.mk ((hb.block w.heap.size (Sets.blk_lt HX1.out)).trans HX1.out)
  obtain ⟨A2, c2, rfl, _, _⟩ := Kd.R_reads hR
  clear hb hR HB1 HX1 x0 x1
  have x0 : w2.cell? ⟨w.heap.size, 0, none⟩ = some (.int .i64 n) := (blk_cell HX2.out 0).trans rfl
  have x1 : w2.cell? ⟨w.heap.size, 1, none⟩ = some (.slice A l.length c) := (blk_cell HX2.out 1).trans rfl
  go_wp2_with fail
  refine (tangramref03_Valid.calls k n A c l false _ (Kd.C_below HR.out HB2.out) hc H2.out).mono ?_
  rintro e w3 ⟨rfl, hb⟩
  have HB3 := Aside0.mk (HB2.out.trans (hb.mono HB2.out.size))
  clear hb
  go_wp2_with fail
  go_ret
  exact ⟨rfl, HB3.out⟩

set_option maxHeartbeats 8000000 in
set_option maxRecDepth 100000 in
theorem paths_yes (n : Nat) (A : Option Addr) (c : Nat) (l : List PureV.E) (U V : Int) (w : World) (hr : Kd.C k33 w A l.length l) (hc : l.length ≤ c) (k : Nat) (h1 : simple_Valid.f k (n : Int) l = some true) (hg : PureV.Good (n : Int) l) :
    Calls Try.prog 4 #[.agg #[.int .i64 (n : Int), .slice A l.length c], .agg #[.int .i64 U, .int .i64 V]] w fun e w' => e = .returned (.bool true) ∧ Below w.heap.size w w' := by
  have hlen0 : l.length ≤ 9223372036854775807 := C_le hr
  have hn : n ≤ 1048576 := Int.ofNat_le.1 hg.2.1
  have HR := Aside0.mk hr
  have HIN0 := Aside0.mk (good_in hg)
  have HE0 := Aside0.mk (comps_Of.pairs hr)
  have H1 := Aside0.mk (of_yes_f h1 hn)
  clear hr h1 hg
  obtain ⟨es, hes⟩ : ∃ es, es = l.map fun x => (x.f0, x.f1) := ⟨_, rfl⟩
  have hll : l.length = es.length := by rw [hes, List.length_map]
  have HLL := Aside0.mk hll
  rw [← hes] at HIN0 HE0 H1
  clear hes
  have HP := Aside0.mk (joinAll_part n es)
  obtain ⟨m, hm⟩ : ∃ m, m = joinAll (List.range n) es := ⟨_, rfl⟩
  have HMJ := Aside0.mk hm
  rw [← hm] at HP H1
  clear hm
  obtain ⟨N, hN⟩ : ∃ N : Int, N = ((sets m : Nat) : Int) := ⟨_, rfl⟩
  have HN := Aside0.mk hN
  rw [← hN] at H1
  clear hN
  have hN0 : 0 ≤ N ∧ N ≤ 1048576 := by
    have := sets_le m
    have := HP.out.len
    have := HN.out
    omega
  obtain ⟨os, hos⟩ : ∃ os, os = ints (numTo m n).1 := ⟨_, rfl⟩
  rw [← hos] at H1
  have HOL : os.length = n := by rw [hos]; unfold ints; rw [List.length_map, numTo_length]
  have HOS := Aside0.mk hos
  clear hos
  have HRD : Aside0 (∀ v, v < n → rd os (v : Int) = (num m v : Int)) := ⟨fun v hv => by rw [HOS.out]; exact rd_num HP.out hv⟩
  have HB := Aside0.mk (((Below.refl w.heap.size w).alloc (Nat.le_refl _) (.cells #[.int .i64 (n : Int), .slice A l.length c] 31 (0, 0))).alloc (by simp) (.cells #[.int .i64 U, .int .i64 V] 33 (0, 0)))
  have HX := Aside0.mk (heap_old (heap_last w (.cells #[.int .i64 (n : Int), .slice A l.length c] 31 (0, 0))) (.cells #[.int .i64 U, .int .i64 V] 33 (0, 0)))
  have HY : Aside0 (((w.alloc (.cells #[.int .i64 (n : Int), .slice A l.length c] 31 (0, 0))).alloc (.cells #[.int .i64 U, .int .i64 V] 33 (0, 0))).heap[w.heap.size + 1]? = some (.cells #[.int .i64 U, .int .i64 V] 33 (0, 0))) := ⟨by
    have := heap_last (w.alloc (.cells #[.int .i64 (n : Int), .slice A l.length c] 31 (0, 0))) (.cells #[.int .i64 U, .int .i64 V] 33 (0, 0))
    rw [show (w.alloc (.cells #[.int .i64 (n : Int), .slice A l.length c] 31 (0, 0))).heap.size = w.heap.size + 1 by simp] at this
    exact this⟩
  have HOL2 := Aside0.mk HOL
  clear HOL hll
  go_enter Try.func4, Try.ntmps4
  go_wp2_with fail
  refine (tangramlaw05_fixed.calls true _ rfl).mono ?_
  rintro e w1 ⟨rfl, hb⟩
  have HB1 := Aside0.mk (HB.out.trans (hb.mono (by simp; omega)))
  have HX1 := Aside0.mk ((hb.block w.heap.size (by simp; omega)).trans HX.out)
  have HY1 := Aside0.mk ((hb.block (w.heap.size + 1) (by simp)).trans HY.out)
  clear hb HB HX HY
  have x0 : w1.cell? ⟨w.heap.size, 0, none⟩ = some (.int .i64 (n : Int)) := (blk_cell HX1.out 0).trans rfl
  have x1 : w1.cell? ⟨w.heap.size, 1, none⟩ = some (.slice A l.length c) := (blk_cell HX1.out 1).trans rfl
  go_wp2_with fail
  refine (comps_Of.calls k (n : Int) A c l _ _ _ _ (Kd.C_below HR.out HB1.out) hc H1.out).mono ?_
  rintro e w2 ⟨v2, rfl, hR, hb⟩
  have HB2 := Aside0.mk (HB1.out.trans (hb.mono HB1.out.size))
  have HX2 := Aside0.mk ((hb.block w.heap.size (Sets.blk_lt HX1.out)).trans HX1.out)
  have HY2 := Aside0.mk ((hb.block (w.heap.size + 1) (Sets.blk_lt HY1.out)).trans HY1.out)
  have HR2 := Aside0.mk (Kd.C_below HR.out HB2.out)
  have HE2 := Aside0.mk (HE0.out.below HB2.out)
  obtain ⟨A2, c2, rfl, _, hO⟩ := Kd.R_reads hR
  have HO := Aside0.mk hO
  clear hb hR HB1 HX1 HY1 x0 x1 HR HE0 hO
  rw [HOL2.out] at HO
  have x0 : w2.cell? ⟨w.heap.size, 0, none⟩ = some (.int .i64 (n : Int)) := (blk_cell HX2.out 0).trans rfl
  have x1 : w2.cell? ⟨w.heap.size, 1, none⟩ = some (.slice A l.length c) := (blk_cell HX2.out 1).trans rfl
  rw [HOL2.out]
  have HBW : Aside0 (Below w2.heap.size w2 w2) := ⟨Below.refl _ _⟩
  by_cases hbig : n ≤ 2000
  · have hbig2 : decide ((n : Int) > 2000) = false := decide_eq_false (by omega)
    go_wp2_with fail
    clear hbig2
    go_loopw [8, 52] (fun y v wr => ∃ (i : Nat) (s : Int), v = .int .i64 (i : Int) ∧ y = .int .i64 s ∧ i ≤ n ∧ 0 ≤ s ∧ s ≤ 2000 ∧ Aside0 (s = ((PureR.roots m i : Nat) : Int)) ∧ Aside0 (Below w2.heap.size w2 wr)) (fun _ v _ => n - (intOf v).toNat)
    case atStart => exact ⟨0, 0, rfl, rfl, by omega, by omega, by omega, ⟨rfl⟩, HBW⟩
    case round =>
      clear HBW
      obtain ⟨i, s, rfl, rfl, hi, hs0, hs1, HS, HB⟩ := hrel
      clear x0 x1
      have x0 : wr.cell? ⟨w.heap.size, 0, none⟩ = some (.int .i64 (n : Int)) := (blk_cell (HB.out.block _ (Sets.blk_lt HX2.out) ▸ HX2.out) 0).trans rfl
      have x1 : wr.cell? ⟨w.heap.size, 1, none⟩ = some (.slice A l.length c) := (blk_cell (HB.out.block _ (Sets.blk_lt HX2.out) ▸ HX2.out) 1).trans rfl
      by_cases hlt : i < n
      · obtain ⟨ad, eA, hx⟩ := Kd.at_int (Kd.C_below HO.out HB.out) (i : Int) (by omega) (by omega)
        subst eA
        obtain ⟨q, hq⟩ : ∃ q, q = rd os (i : Int) := ⟨_, rfl⟩
        rw [Int.toNat_natCast, ← hq] at hx
        have hq2 : q = (num m i : Int) := hq.trans (HRD.out i hlt)
        have t1 : decide (q < 0) = false := decide_eq_false (by omega)
        have t2 : decide (q > s) = false := decide_eq_false (by have := num_le HP.out hlt; have := HS.out; omega)
        have t3 : decide (q ≥ N) = false := decide_eq_false (by have := num_lt HP.out hlt; have := HN.out; rw [← roots_sets HP.out] at this; omega)
        by_cases hr : gt m i = i
        · obtain ⟨h3, h4⟩ := num_new HP.out hlt hr
          have hs3 : s + 1 = ((PureR.roots m (i + 1) : Nat) : Int) := by have := HS.out; omega
          have hs4 : PureR.roots m (i + 1) ≤ i + 1 := PureR.roots_le m (i + 1)
          have t4 : (q == s) = true := by rw [beq_iff_eq, hq2, HS.out, h3]
          have HS3 := Aside0.mk hs3
          have hs5 : s + 1 ≤ 2000 := by omega
          clear hq hq2 h3 h4 hr hs3 hs4 HS
          go_wp2_with fail
          have hreach := reaches_calls n i A c es (some ad) c2 os wr hn hlt (HE2.out.below HB.out) (by rw [← HLL.out]; exact hlen0) HIN0.out (by rw [HOL2.out]; exact Kd.C_below HO.out HB.out) HOL2.out (fun u hu => by rw [HRD.out u hu, HRD.out i hlt]; rw [Int.ofNat_inj, num_iff HP.out hu hlt]; exact ⟨fun e => e.symm, fun e => e.symm⟩)
          rw [← HLL.out, HOL2.out] at hreach
          refine hreach.mono ?_
          rintro e w5 ⟨rfl, hb⟩
          have HB5 := Aside0.mk (HB.out.trans (hb.mono HB.out.size))
          clear hb hreach HB x0 x1
          go_wp2_with fail
          go_roundw
          case rel => exact ⟨i + 1, s + 1, by go_num, rfl, by omega, by omega, by omega, HS3, HB5⟩
          case measure => simp [intOf]; omega
        · obtain ⟨h3, h4⟩ := num_old HP.out hlt hr
          have hs3 : s = ((PureR.roots m (i + 1) : Nat) : Int) := by have := HS.out; omega
          have t4 : (q == s) = false := by rw [beq_eq_false_iff_ne, hq2, HS.out]; omega
          have HS3 := Aside0.mk hs3
          clear hq hq2 h3 h4 hr hs3 HS
          go_wp2_with fail
          go_roundw
          case rel => exact ⟨i + 1, s, by go_num, rfl, by omega, by omega, by omega, HS3, HB⟩
          case measure => simp [intOf]; omega
      · obtain rfl : n = i := by omega
        have t5 : (s != N) = false := by
          have := HS.out
          rw [bne_eq_false_iff_eq, this, HN.out, roots_sets HP.out]
        clear HS
        have y0 : wr.cell? ⟨w.heap.size + 1, 0, none⟩ = some (.int .i64 U) := (blk_cell (HB.out.block _ (Sets.blk_lt HY2.out) ▸ HY2.out) 0).trans rfl
        have y1 : wr.cell? ⟨w.heap.size + 1, 1, none⟩ = some (.int .i64 V) := (blk_cell (HB.out.block _ (Sets.blk_lt HY2.out) ▸ HY2.out) 1).trans rfl
        have HBE : Aside0 (Below w.heap.size w wr) := ⟨HB2.out.trans (HB.out.mono HB2.out.size)⟩
        by_cases u0 : U < 0
        · have u0b : decide (U < 0) = true := decide_eq_true u0
          clear u0
          go_wp2_with fail
          go_ret
          exact ⟨rfl, HBE.out⟩
        have u0b : decide (U < 0) = false := decide_eq_false u0
        by_cases u1 : U ≥ V
        · have u1b : decide (U ≥ V) = true := decide_eq_true u1
          clear u0 u1
          go_wp2_with fail
          go_ret
          exact ⟨rfl, HBE.out⟩
        have u1b : decide (U ≥ V) = false := decide_eq_false u1
        by_cases u2 : V ≥ (n : Int)
        · have u2b : decide (V ≥ (n : Int)) = true := decide_eq_true u2
          clear u0 u1 u2
          go_wp2_with fail
          go_ret
          exact ⟨rfl, HBE.out⟩
        have u2b : decide (V ≥ (n : Int)) = false := decide_eq_false u2
        have HU : Aside0 (0 ≤ U ∧ U < V ∧ V < (n : Int)) := ⟨by omega⟩
        clear u0 u1 u2
        go_wp2_with fail
        refine (new_yes n _ (by omega)).mono ?_
        rintro e w3 ⟨p, bP, bS, rfl, hp1, hp2, hp3, hA, hb⟩
        have hsz := HB.out.size
        have HB3 := Aside0.mk (HB.out.trans (hb.mono hsz))
        have HPb : Aside0 (w2.heap.size ≤ p ∧ w2.heap.size ≤ bP ∧ w2.heap.size ≤ bS) := ⟨by omega⟩
        have HA := Aside0.mk hA
        clear hb hA hp1 hp2 hp3 hsz HB x0 x1 y0 y1 HBE t5 u0b u1b u2b
        have x1 : w3.cell? ⟨w.heap.size, 1, none⟩ = some (.slice A l.length c) := (blk_cell (HB3.out.block _ (Sets.blk_lt HX2.out) ▸ HX2.out) 1).trans rfl
        go_wp2_with fail
        clear x1
        rw [HLL.out]
        have hle : es.length ≤ 9223372036854775807 := by rw [← HLL.out]; exact hlen0
        go_loopw [109] (fun v wr => ∃ i : Nat, v = .int .i64 (i : Int) ∧ i ≤ es.length ∧ Aside0 (At wr p bP bS (joinAll (List.range n) (es.take i))) ∧ Aside0 (Below w2.heap.size w2 wr)) (fun v _ => es.length - (intOf v).toNat)
        case atStart => exact ⟨0, rfl, by omega, HA, HB3⟩
        case round =>
          clear HA HB3
          obtain ⟨i, rfl, hi, HA, HB⟩ := hrel
          by_cases hlt : i < es.length
          · obtain ⟨ad2, eA, hc1, hc2⟩ := (HE2.out.below HB.out) i hlt
            subst eA
            go_wp2_with fail
            obtain ⟨P1, S1, H1⟩ := HA.out
            have hpb := HPb.out
            have hsz := HB.out.size
            have H2 : AtPS (wr.alloc (.cells #[.int .i64 (pe es i).1, .int .i64 (pe es i).2] 33 (0, 0))) p bP bS (joinAll (List.range n) (es.take i)) P1 S1 := ⟨heap_old H1.obj _, heap_old H1.par _, heap_old H1.siz _, H1.ne1, H1.ne2, H1.ne3, H1.small, H1.rep, H1.sized⟩
            have hF : Sets.Frame (Own p bP bS) wr (wr.alloc (.cells #[.int .i64 (pe es i).1, .int .i64 (pe es i).2] 33 (0, 0))) := (Sets.Frame.refl _ _).alloc _
            have H3 := Aside0.mk H2
            have HF := Aside0.mk hF
            clear H1 H2 hF
            refine (join_calls p bP bS _ P1 S1 _ _ _ H3.out).mono ?_
            rintro e w5 ⟨rfl, hA, hF⟩
            have HA2 := Aside0.mk hA
            have HB2 := Aside0.mk (HB.out.trans ((HF.out.trans hF).below hsz (fun k hk => by unfold Own at hk; omega)))
            have hlen := joinAll_take (List.range n) es hlt
            rw [← hlen] at HA2
            clear hA hF hlen hc1 hc2
            go_wp2_with fail
            go_roundw
            case rel => exact ⟨i + 1, by go_num, by omega, HA2, HB2⟩
            case measure => simp [intOf]; omega
          · obtain rfl : i = es.length := by omega
            rw [List.take_length, ← HMJ.out] at HA
            have y0 : wr.cell? ⟨w.heap.size + 1, 0, none⟩ = some (.int .i64 U) := (blk_cell (HB.out.block _ (Sets.blk_lt HY2.out) ▸ HY2.out) 0).trans rfl
            have y1 : wr.cell? ⟨w.heap.size + 1, 1, none⟩ = some (.int .i64 V) := (blk_cell (HB.out.block _ (Sets.blk_lt HY2.out) ▸ HY2.out) 1).trans rfl
            go_wp2_with fail
            obtain ⟨P1, S1, H1⟩ := HA.out
            refine (join_calls p bP bS _ P1 S1 _ _ _ H1).mono ?_
            rintro e w5 ⟨rfl, hA, hF⟩
            clear H1 y0 y1
            have HB5 := Aside0.mk (HB.out.trans (hF.below HB.out.size (fun k hk => by have := HPb.out; unfold Own at hk; omega)))
            have y0 : w5.cell? ⟨w.heap.size + 1, 0, none⟩ = some (.int .i64 U) := (blk_cell (HB5.out.block _ (Sets.blk_lt HY2.out) ▸ HY2.out) 0).trans rfl
            have y1 : w5.cell? ⟨w.heap.size + 1, 1, none⟩ = some (.int .i64 V) := (blk_cell (HB5.out.block _ (Sets.blk_lt HY2.out) ▸ HY2.out) 1).trans rfl
            obtain ⟨a, rfl⟩ := Int.eq_ofNat_of_zero_le (show 0 ≤ U by have := HU.out; omega)
            obtain ⟨b, rfl⟩ := Int.eq_ofNat_of_zero_le (show 0 ≤ V by have := HU.out; omega)
            have hab : a < n ∧ b < n := by have := HU.out; omega
            obtain ⟨ha, hb⟩ := hab
            have hsj := sets_join HP.out (a : Int) (b : Int)
            have hpj := (joinOf_part HP.out (a : Int) (b : Int)).len
            have hjt : (joinOf m a b).2 = true ↔ num m a ≠ num m b := by
              constructor
              · intro h e
                rw [num_iff HP.out ha hb, ← HP.out.iff ha hb] at e
                rw [joinOf_same e] at h
                cases h
              · intro h
                rw [joinOf_two (by rw [HP.out.len]; exact ha) (by rw [HP.out.len]; exact hb) (fun e => h (by unfold num; rw [e]))]
            obtain ⟨m2, hm2⟩ : ∃ m2, m2 = (joinOf m a b).1 := ⟨_, rfl⟩
            obtain ⟨ap, hap⟩ : ∃ ap, ap = (joinOf m a b).2 := ⟨_, rfl⟩
            rw [← hap, ← hm2] at hsj
            rw [← hm2] at hpj hA
            rw [← hap] at hjt ⊢
            obtain ⟨P2, S2, H2⟩ := hA
            have HQ := Aside0.mk (fun nq => (count_calls p bP bS m2 P2 S2 (w5.drewN nq) (H2.drewN nq)).mono (R' := fun e w' => e = .returned (.int .i64 ((sets m2 : Nat) : Int)) ∧ w' = w5.drewN nq) fun e w' h => ⟨h.1, h.2.symm⟩)
            obtain ⟨ad, eA, hx⟩ := Kd.at_int (Kd.C_below HO.out HB5.out) (a : Int) (by omega) (by omega)
            obtain ⟨ad2, eA2, hy⟩ := Kd.at_int (Kd.C_below HO.out HB5.out) (b : Int) (by omega) (by omega)
            obtain rfl : ad2 = ad := by rw [eA] at eA2; exact (Option.some.inj eA2).symm
            subst eA
            obtain ⟨x, hx2⟩ : ∃ x, x = rd os (a : Int) := ⟨_, rfl⟩
            obtain ⟨y, hy2⟩ : ∃ y, y = rd os (b : Int) := ⟨_, rfl⟩
            rw [Int.toNat_natCast, ← hx2] at hx
            rw [Int.toNat_natCast, ← hy2] at hy
            have hx3 : x = (num m a : Int) := hx2.trans (HRD.out a ha)
            have hy3 : y = (num m b : Int) := hy2.trans (HRD.out b hb)
            obtain ⟨M, hM⟩ : ∃ M : Int, M = ((sets m2 : Nat) : Int) := ⟨_, rfl⟩
            have hNN := HN.out
            rw [← hM] at HQ
            clear hx2 hy2 H2 hm2 hap hF
            cases ap with
            | true =>
              have hne : num m a ≠ num m b := hjt.1 rfl
              have q1 : (x != y) = true := by rw [bne_iff_ne, hx3, hy3]; omega
              rw [if_pos rfl] at hsj
              have q2 : IntKind.i64.wrap (N - 1) = M := by rw [IntWalk.i64_in _ (by omega)]; omega
              have q3 : (M == N) = false := by rw [beq_eq_false_iff_ne]; omega
              clear hx3 hy3 hsj hpj hjt hne hM hNN
              go_wp2_with fail
              go_quiet ((go_at_call 12; exact Calls.quiet_of_same (HQ.out _)))
              go_wp2_with fail
              go_ret
              exact ⟨rfl, pw_below_drewN (HB2.out.trans (HB5.out.mono HB2.out.size)) _⟩
            | false =>
              have hne : num m a = num m b := Decidable.byContradiction fun e => by have := hjt.2 e; cases this
              have q1 : (x != y) = false := by rw [bne_eq_false_iff_eq, hx3, hy3, hne]
              rw [if_neg (by decide)] at hsj
              obtain rfl : M = N := by omega
              obtain ⟨K, hK⟩ : ∃ K : Int, K = M - 1 := ⟨_, rfl⟩
              have q2 : IntKind.i64.wrap (M - 1) = K := by rw [IntWalk.i64_in _ (by omega)]; omega
              have q3 : (M == K) = false := by rw [beq_eq_false_iff_ne]; omega
              clear hx3 hy3 hsj hpj hjt hne hM hNN hK
              go_wp2_with fail
              go_quiet ((go_at_call 12; exact Calls.quiet_of_same (HQ.out _)))
              go_wp2_with fail
              go_ret
              exact ⟨rfl, pw_below_drewN (HB2.out.trans (HB5.out.mono HB2.out.size)) _⟩
  · have hbig2 : decide ((n : Int) > 2000) = true := decide_eq_true (by omega)
    go_wp2_with fail
    go_ret
    exact ⟨rfl, HB2.out⟩
theorem CompsPaths (a0_0 : Int) (A0_1 : Option Addr) (c0_1 : Nat) (l0_1 : List PureV.E) (a1_0 a1_1 : Int) (w : World) (hr0_1 : Kd.C k33 w A0_1 l0_1.length l0_1) (hc0_1 : l0_1.length ≤ c0_1) (g0 : Open.I64 a0_0 ∧ l0_1.length * 16 ≤ 140737488351232 ∧ ∀ x ∈ l0_1, Open.I64 x.f0 ∧ Open.I64 x.f1) (g1 : Open.I64 a1_0 ∧ Open.I64 a1_1) :
    Calls Try.prog 4 #[.agg #[.int .i64 a0_0, .slice A0_1 l0_1.length c0_1], .agg #[.int .i64 a1_0, .int .i64 a1_1]] w fun e w' => e = .returned (.bool true) ∧ Below w.heap.size w w' := by
  obtain ⟨b, ⟨K1, h1⟩, ⟨K2, h2⟩, h3⟩ := PureV.valid a0_0 l0_1
  have e1 := h1 (max K1 K2) (by omega)
  have e2 := h2 (max K1 K2) (by omega)
  clear h1 h2
  cases b with
  | false => exact paths_no a0_0 A0_1 c0_1 l0_1 a1_0 a1_1 w hr0_1 hc0_1 _ e1 e2
  | true =>
    have hg := h3.1 rfl
    obtain ⟨n, rfl⟩ := Int.eq_ofNat_of_zero_le hg.1
    exact paths_yes n A0_1 c0_1 l0_1 a1_0 a1_1 w hr0_1 hc0_1 _ e1 hg
end Go.Proofs.Ytoajoklpbfehiaa.PureX
