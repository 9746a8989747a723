/- DERIVED. Texts of this seat, one behind the other: lemmas and walks that the statement RotBack needs. No condition. -/
import Derived.Test.YtkkhhbegeboonaaCRotBacka
import Derived.Test.YtkkhhbegeboonaaCRotBackb
-- Written by a program of this session (wip/tools/printx.py) over the kit's printer and texts of its own; it is no print of print.sh.


namespace Go.Proofs.Ytkkhhbegeboonaa.GAll
open Go.RowKit Go.Proofs.YtkkhhbegeboonaaW.PrintWords Go.Proofs.YtkkhhbegeboonaaW.PrintLast Go.Proofs.YtkkhhbegeboonaaW.PrintMore
attribute [local go_sem] max2_int min2_int max_two min_two max_three min_three max_four min_four   -- for this text's walks alone
set_option linter.unusedVariables false
set_option linter.unusedSimpArgs false

/-! ### rot_Next: function 12 -/
mutual
def rot_Next.l0 : Nat → List Int → List (List Int) → Int → Int → Option (List Int × Int)
  | 0, _, _, _, _ => none
  | k + 1, x8, x27, x28, x29 => if x29 < x28 then (if 0 ≤ x29 then (if x29 < (x27.length : Int) then (rot_Next.l1 k x8 (rd_L4 x27 x29) x27 x28 x29 (rd_L4 x27 x29) ((rd_L4 x27 x29).length : Int) 0) else (none)) else (none)) else (some (x8, 0))
def rot_Next.l1 : Nat → List Int → List Int → List (List Int) → Int → Int → List Int → Int → Int → Option (List Int × Int)
  | 0, _, _, _, _, _, _, _, _ => none
  | k + 1, x8, x10, x27, x28, x29, x33, x34, x35 => if x35 < x34 then (if 0 ≤ x35 then (if x35 < (x33.length : Int) then (if (x10.length : Int) = 0 then (none) else (if 0 ≤ (Int.tmod (wrap64 (x35 + 1)) (x10.length : Int)) then (if (Int.tmod (wrap64 (x35 + 1)) (x10.length : Int)) < (x10.length : Int) then (if 0 ≤ (rd x33 x35) then (if (rd x33 x35) < (x8.length : Int) then (rot_Next.l1 k (x8.set ((rd x33 x35) : Int).toNat (rd x10 (Int.tmod (wrap64 (x35 + 1)) (x10.length : Int)))) x10 x27 x28 x29 x33 x34 (wrap64 (x35 + 1))) else (none)) else (none)) else (none)) else (none))) else (none)) else (none)) else (rot_Next.l0 k x8 x27 x28 (wrap64 (x29 + 1)))
end
def rot_Next.f (k : Nat) (a0_0 : Int) (l0_1 : List (S59)) (l1 : List (List Int)) : Option (List Int × Int) := (rot_Check.f k a0_0 l0_1 l1).bind fun bt120 => (if bt120.2 = 0 then (if 0 ≤ (wrap64 (2 * (l0_1.length : Int))) then (if (wrap64 (2 * (l0_1.length : Int)) : Int).toNat ≤ 35184372088832 then (rot_Next.l0 k (List.replicate (wrap64 (2 * (l0_1.length : Int)) : Int).toNat 0) l1 (l1.length : Int) 0) else (none)) else (none)) else (some (([] : List Int), bt120.2)))
theorem rot_Next.mono_l : ∀ k, (∀ y0 y1 y2 y3, LeO (rot_Next.l0 k y0 y1 y2 y3) (rot_Next.l0 (k + 1) y0 y1 y2 y3)) ∧ (∀ y0 y1 y2 y3 y4 y5 y6 y7, LeO (rot_Next.l1 k y0 y1 y2 y3 y4 y5 y6 y7) (rot_Next.l1 (k + 1) y0 y1 y2 y3 y4 y5 y6 y7))
  | 0 => ⟨fun _ _ _ _ r h => by simp [rot_Next.l0] at h, fun _ _ _ _ _ _ _ _ r h => by simp [rot_Next.l1] at h⟩
  | k + 1 => by
    obtain ⟨ih0, ih1⟩ := rot_Next.mono_l k
    refine ⟨?_, ?_⟩
    · intro y0 y1 y2 y3
      unfold rot_Next.l0
      repeat' first
      | (with_reducible exact ih0 _ _ _ _)
      | (with_reducible exact ih1 _ _ _ _ _ _ _ _)
      | (with_reducible exact rot_Check.mono _ _ _ _)
      | (with_reducible exact LeO.refl _)
      | (with_reducible exact LeO.none _)
      | (with_reducible refine LeO.ite ?_ ?_)
      | (with_reducible refine LeO.bind ?_ (fun _ => ?_))
      | exact ih0 _ _ _ _
      | exact ih1 _ _ _ _ _ _ _ _
      | exact rot_Check.mono _ _ _ _
      | exact LeO.none _
      | refine LeO.ite ?_ ?_
      | refine LeO.bind ?_ (fun _ => ?_)
    · intro y0 y1 y2 y3 y4 y5 y6 y7
      unfold rot_Next.l1
      repeat' first
      | (with_reducible exact ih0 _ _ _ _)
      | (with_reducible exact ih1 _ _ _ _ _ _ _ _)
      | (with_reducible exact rot_Check.mono _ _ _ _)
      | (with_reducible exact LeO.refl _)
      | (with_reducible exact LeO.none _)
      | (with_reducible refine LeO.ite ?_ ?_)
      | (with_reducible refine LeO.bind ?_ (fun _ => ?_))
      | exact ih0 _ _ _ _
      | exact ih1 _ _ _ _ _ _ _ _
      | exact rot_Check.mono _ _ _ _
      | exact LeO.none _
      | refine LeO.ite ?_ ?_
      | refine LeO.bind ?_ (fun _ => ?_)
theorem rot_Next.mono : ∀ a0 a1 a2 k, LeO (rot_Next.f k a0 a1 a2) (rot_Next.f (k + 1) a0 a1 a2) := by
  intro a0 a1 a2 k
  obtain ⟨ih0, ih1⟩ := rot_Next.mono_l k
  unfold rot_Next.f
  repeat' first
      | (with_reducible exact ih0 _ _ _ _)
      | (with_reducible exact ih1 _ _ _ _ _ _ _ _)
      | (with_reducible exact rot_Check.mono _ _ _ _)
      | (with_reducible exact LeO.refl _)
      | (with_reducible exact LeO.none _)
      | (with_reducible refine LeO.ite ?_ ?_)
      | (with_reducible refine LeO.bind ?_ (fun _ => ?_))
      | exact ih0 _ _ _ _
      | exact ih1 _ _ _ _ _ _ _ _
      | exact rot_Check.mono _ _ _ _
      | exact LeO.none _
      | refine LeO.ite ?_ ?_
      | refine LeO.bind ?_ (fun _ => ?_)
set_option maxHeartbeats 8000000 in
set_option maxRecDepth 100000 in
theorem rot_Next.calls (k : Nat) (a0_0 : Int) (A0_1 : Option Addr) (c0_1 : Nat) (l0_1 : List (S59)) (A1 : Option Addr) (c1 : Nat) (l1 : List (List Int)) (r1 : List Int) (r2 : Int) (w : World) (hr0_1 : Kd.C k59 w A0_1 l0_1.length l0_1) (hc0_1 : l0_1.length ≤ c0_1) (hr1 : Kd.C (Kd.slice 3 (Kd.int .i64)) w A1 l1.length l1) (hc1 : l1.length ≤ c1) (h : rot_Next.f k a0_0 l0_1 l1 = some (r1, r2)) :
    Calls Try.prog 12 #[.agg #[.int .i64 a0_0, .slice A0_1 l0_1.length c0_1], .slice A1 l1.length c1] w fun e w' => ∃ v0_ : Value, e = .returned (.tuple #[v0_, .int .i64 r2]) ∧ Kd.R (Kd.int .i64) 3 w' w.heap.size (fun _ => True) v0_ r1 ∧ Below w.heap.size w w' := by
  have hu24 := Try.underlying24
  have HR0_1 := Aside0.mk hr0_1
  have HC0_1 := Aside0.mk hc0_1
  clear hr0_1 hc0_1
  have HR1 := Aside0.mk hr1
  have HC1 := Aside0.mk hc1
  clear hr1 hc1
  have HB := Aside0.mk (Below.refl w.heap.size w)
  have H : ((rot_Check.f k a0_0 l0_1 l1).bind fun bt120 => (if bt120.2 = 0 then (if 0 ≤ (wrap64 (2 * (l0_1.length : Int))) then (if (wrap64 (2 * (l0_1.length : Int)) : Int).toNat ≤ 35184372088832 then (rot_Next.l0 k (List.replicate (wrap64 (2 * (l0_1.length : Int)) : Int).toNat 0) l1 (l1.length : Int) 0) else (none)) else (none)) else (some (([] : List Int), bt120.2)))) = some (r1, r2) := h
  clear h
  replace H := Option.bind_eq_some_iff.mp H
  obtain ⟨⟨t120, t121⟩, A30, H⟩ := H
  replace H : (if t121 = 0 then (if 0 ≤ (wrap64 (2 * (l0_1.length : Int))) then (if (wrap64 (2 * (l0_1.length : Int)) : Int).toNat ≤ 35184372088832 then (rot_Next.l0 k (List.replicate (wrap64 (2 * (l0_1.length : Int)) : Int).toNat 0) l1 (l1.length : Int) 0) else (none)) else (none)) else (some (([] : List Int), t121))) = some (r1, r2) := H
  have A3 := Aside0.mk A30
  clear A30
  by_cases c4 : t121 = 0
  · rw [if_pos c4] at H
    have c4b0 : (t121 == 0) = true := beq_iff_eq.mpr c4
    have c4b1 : (t121 != 0) = false := bne_eq_false_iff_eq.mpr c4
    clear c4
    obtain ⟨ji5, hji5⟩ : ∃ j_ : Int, (wrap64 (2 * (l0_1.length : Int))) = j_ := ⟨_, rfl⟩
    replace H : (if 0 ≤ (ji5) then (if (ji5 : Int).toNat ≤ 35184372088832 then (rot_Next.l0 k (List.replicate (ji5 : Int).toNat 0) l1 (l1.length : Int) 0) else (none)) else (none)) = some (r1, r2) := by first | (rw [hji5] at H; exact H) | (simp only [hji5] at H ⊢; exact H)
    (try rw [hji5] at A3)
    have hji5w : (IntKind.i64.wrap (2 * (l0_1.length : Int))) = ji5 := (i64_w _).trans hji5
    by_cases c6 : 0 ≤ (ji5)
    · rw [if_pos c6] at H
      have c6b0 := eq_true c6
      have c6b1 : decide (0 ≤ (ji5)) = true := decide_eq_true c6
      clear c6
      by_cases c7 : (ji5 : Int).toNat ≤ 35184372088832
      · rw [if_pos c7] at H
        have c7b0 := eq_true c7
        have c7b1 : decide ((ji5 : Int).toNat ≤ 35184372088832) = true := decide_eq_true c7
        clear c7
        obtain ⟨y122, hy122⟩ : ∃ y_ : List Int, y_ = (List.replicate (ji5 : Int).toNat 0) := ⟨_, rfl⟩
        replace H : (rot_Next.l0 k y122 l1 (l1.length : Int) 0) = some (r1, r2) := by first | (rw [hy122]; with_reducible exact H) | (have H2_ := (Option.bind_some _ _).symm.trans H; rw [hy122]; with_reducible exact H2_) | (have H2_ := (Option.bind_some _ _).symm.trans H; with_reducible exact H2_) | with_reducible exact H | (rw [hy122]; exact H) | exact H
        have Ny122 := Aside0.mk hy122
        clear hy122
        have H' := Aside0.mk H
        clear H
        go_enter Try.func12, Try.ntmps12
        go_wp2_with (first | ((with_reducible refine gate_dst (N := 2) rfl ?_); refine box_event ?hg (N := 2) ?hd (cs := #[.int .i64 a0_0, .slice A0_1 l0_1.length c0_1]) (t := 24) ?hr ?_; (case hd => rfl); (case hg => rfl); (case hr => first | (go_simp; done) | (go_simp; rfl)); intro gb119 hg w8 hbox hb; have n0_ := Aside0.mk (below_step (by repeat (first | (with_reducible first | exact HB.out | apply below_alloc | apply pw_below_drewN | apply below_drew1) | exact HB.out)) hb); have n1_ := Aside0.mk (hbox); have n2_ := Aside0.mk ((by rw [hg]; exact (below_size (by repeat (first | (with_reducible first | exact HB.out | apply below_alloc | apply pw_below_drewN | apply below_drew1) | exact HB.out))) : w.heap.size ≤ gb119)); have n3_ := Aside0.mk ((by rw [hg]; exact (below_size (by repeat (first | (with_reducible first | exact HB.out | apply below_alloc | apply pw_below_drewN | apply below_drew1) | exact HB.out))) : w.heap.size ≤ gb119)); clear HB; have HB := n0_; have BK119 := n1_; have GW119 := n2_; have GE119 := n3_; clear n0_ n1_ n2_ n3_; clear hb hbox hg; have hcz9_0 : w8.cell? ⟨gb119, 0, none⟩ = some (.int .i64 a0_0) := (blk_cell BK119.out 0).trans rfl; have hcz9_1 : w8.cell? ⟨gb119, 1, none⟩ = some (.slice A0_1 l0_1.length c0_1) := (blk_cell BK119.out 1).trans rfl; have hfz9_0 := blk_frozen BK119.out 0; have hfz9_1 := blk_frozen BK119.out 1) | ((with_reducible refine gate_callee (f := 15) rfl ?_); refine goesL_ (some 16) rfl rfl Try.func15 (by kernel_rfl) rfl #[.agg #[.int .i64 a0_0, .slice A0_1 l0_1.length c0_1], .slice A1 l1.length c1] rfl (by (try simp only [List.map_toArray, List.map_cons, List.map_nil]); first | done | rfl | (simp only [List.length_drop, List.length_take]; rfl)) ?_; (with_reducible refine (rot_Check.calls k a0_0 _ _ l0_1 _ _ l1 t120 t121 _ ?side1 ?side2 ?side3 ?side4 A3.out).mono ?_); (case side1 => repeat (first | exact (Kd.C_below HR0_1.out HB.out) | (with_reducible refine Kd.C_alloc ?_ _) | (with_reducible refine Kd.C_drewN ?_ _) | (with_reducible refine Kd.C_drew ?_))); (case side2 => exact HC0_1.out); (case side3 => repeat (first | exact (Kd.C_below HR1.out HB.out) | (with_reducible refine Kd.C_alloc ?_ _) | (with_reducible refine Kd.C_drewN ?_ _) | (with_reducible refine Kd.C_drew ?_))); (case side4 => exact HC1.out); rintro e w10 ⟨rfl, hb⟩; refine ⟨_, rfl, ?_⟩; have n0_ := Aside0.mk (blk_below (g := gb119) (o := .cells #[.int .i64 a0_0, .slice A0_1 l0_1.length c0_1] 24 (0, 0)) (by (with_reducible repeat (first | refine blk_drewN ?_ _ | refine blk_drew ?_ | refine blk_alloc ?_ _)); exact BK119.out) hb); have n1_ := Aside0.mk (below_step (by repeat (first | (with_reducible first | exact HB.out | apply below_alloc | apply pw_below_drewN | apply below_drew1 | refine below_set ?_ GE119.out) | exact HB.out)) hb); clear BK119; clear HB; have BK119 := n0_; have HB := n1_; clear n0_ n1_; (try clear hb); (try clear hb2); (try clear hk); (try clear hi); have hcz11_0 : w10.cell? ⟨gb119, 0, none⟩ = some (.int .i64 a0_0) := (blk_cell BK119.out 0).trans rfl; have hcz11_1 : w10.cell? ⟨gb119, 1, none⟩ = some (.slice A0_1 l0_1.length c0_1) := (blk_cell BK119.out 1).trans rfl; have hfz11_0 := blk_frozen BK119.out 0; have hfz11_1 := blk_frozen BK119.out 1) | ((with_reducible refine gate_dst (N := 26) rfl ?_); refine Kd.R_make (Kd.int .i64) _ 3 rfl (N := 26) rfl 28 _ _ rfl ji5 rfl rfl Try.underlying28 (.int .i64 0) 8 info3 rfl (by decide) (by omega) 0 (ok := fun _ => True) (okp := fun _ => True) rfl (fun _ hk => hk) trivial (of_decide_eq_true (by first | (with_reducible assumption) | assumption)) (Nat.le_trans (Nat.mul_le_mul_right _ (of_decide_eq_true (by first | (with_reducible assumption) | assumption) : ji5.toNat ≤ 35184372088832)) (by omega)) (Below.refl _ _) (Nat.le_refl _) ?_; intro v123 w12 ho13 hb hg_ hnew_; clear hg_ hnew_; (first | rw [← Ny122.out] at ho13 | (simp only [Int.reduceToNat] at ho13; rw [← Ny122.out] at ho13)); have n0_ := Aside0.mk (Kd.R_lower ho13 (below_size (by repeat (first | (with_reducible first | exact HB.out | apply below_alloc | apply pw_below_drewN | apply below_drew1 | refine below_set ?_ GE119.out) | exact HB.out)))); have n1_ := Aside0.mk (blk_below (g := gb119) (o := .cells #[.int .i64 a0_0, .slice A0_1 l0_1.length c0_1] 24 (0, 0)) (by (with_reducible repeat (first | refine blk_drewN ?_ _ | refine blk_drew ?_ | refine blk_alloc ?_ _)); exact BK119.out) hb); have n2_ := Aside0.mk (below_step (by repeat (first | (with_reducible first | exact HB.out | apply below_alloc | apply pw_below_drewN | apply below_drew1 | refine below_set ?_ GE119.out) | exact HB.out)) hb); clear BK119; clear HB; have HO124 := n0_; have BK119 := n1_; have HB := n2_; clear n0_ n1_ n2_; clear hb ho13))
        go_loopg [29] k (fun kq v29 w' => ∃ (x8_1 : List Int) (x29_1 : Int), v29 = .int .i64 x29_1 ∧ Aside0 (rot_Next.l0 kq x8_1 l1 (l1.length : Int) x29_1 = some (r1, r2)) ∧ Aside0 (kq ≤ k) ∧ Aside0 (Kd.R (Kd.int .i64) 3 w' w.heap.size (fun _ => True) v123 x8_1) ∧ Aside0 (w'.heap[gb119]? = some (.cells #[.int .i64 a0_0, (.slice A0_1 l0_1.length c0_1)] 24 (0, 0))) ∧ Aside0 (Below w.heap.size w w'))
        case atStart => exact ⟨(y122), (0), (by first | rfl | (simp; done) | (simp [*]; done)), H', ⟨Nat.le_refl _⟩, ⟨by (with_reducible repeat (first | apply Kd.R_alloc | apply Kd.R_drewN | apply Kd.R_drew)); exact HO124.out⟩, ⟨by (with_reducible repeat (first | refine blk_drewN ?_ _ | refine blk_drew ?_ | refine blk_alloc ?_ _)); exact BK119.out⟩, ⟨by repeat (first | (with_reducible first | exact HB.out | apply below_alloc | apply pw_below_drewN | apply below_drew1 | refine below_set ?_ GE119.out) | exact HB.out)⟩⟩
        case round =>
          clear H'
          try clear c1
          try clear p2
          try clear c4
          try clear c4b0
          try clear c4b1
          try clear c6
          try clear c6b0
          try clear c6b1
          try clear p6
          try clear c7
          try clear c7b0
          try clear c7b1
          try clear c12
          try clear hcz11_0
          try clear hcz11_1
          try clear hcz9_0
          try clear hcz9_1
          try clear hfz11_0
          try clear hfz11_1
          try clear hfz9_0
          try clear hfz9_1
          obtain ⟨x8_1, x29_1, rfl, HA, HK1, HO_8, BK119, HB⟩ := hrel
          cases gk with
          | zero => exact absurd HA.out (by simp [rot_Next.l0])
          | succ k1 =>
            have H := HA.out
            clear HA
            simp only [rot_Next.l0] at H
            by_cases c14 : x29_1 < (l1.length : Int)
            · rw [if_pos c14] at H
              have c14b0 : decide (x29_1 < (l1.length : Int)) = true := decide_eq_true c14
              clear c14
              by_cases c15 : 0 ≤ x29_1
              · rw [if_pos c15] at H
                have c15b0 : decide (0 ≤ x29_1) = true := decide_eq_true c15
                clear c15
                by_cases c16 : x29_1 < (l1.length : Int)
                · rw [if_pos c16] at H
                  have c16b0 : decide (x29_1 < (l1.length : Int)) = true := decide_eq_true c16
                  clear c16
                  have H' := Aside0.mk H
                  clear H
                  have p125 : 0 ≤ (x29_1 : Int) := of_decide_eq_true (by first | (with_reducible assumption) | assumption)
                  have q125 : x29_1 < (l1.length : Int) := of_decide_eq_true (by first | (with_reducible assumption) | assumption)
                  obtain ⟨ad125, A125_0, c125_0, e125, hx125_0, hl125_0, hi125_0⟩ := at_L4 HR1.out x29_1 p125 q125
                  cases e125
                  replace hx125_0 := (HB.out.cell (World.block_lt_of_cell? w _ hx125_0)).trans hx125_0
                  have HR125_0 := Aside0.mk hi125_0
                  have HC125_0 := Aside0.mk hl125_0
                  clear hi125_0 hl125_0
                  replace p125 := eq_true p125
                  replace q125 := eq_true q125
                  go_wp2
                  go_loopg [35] k1 (fun kq v35 w' => ∃ (x8_2 : List Int) (x35_2 : Int), v35 = .int .i64 x35_2 ∧ Aside0 (rot_Next.l1 kq x8_2 (rd_L4 l1 x29_1) l1 (l1.length : Int) x29_1 (rd_L4 l1 x29_1) ((rd_L4 l1 x29_1).length : Int) x35_2 = some (r1, r2)) ∧ Aside0 (kq ≤ k1) ∧ Aside0 (Kd.R (Kd.int .i64) 3 w' w.heap.size (fun _ => True) v123 x8_2) ∧ Aside0 (w'.heap[gb119]? = some (.cells #[.int .i64 a0_0, (.slice A0_1 l0_1.length c0_1)] 24 (0, 0))) ∧ Aside0 (Below w.heap.size w w'))
                  case atStart => exact ⟨(x8_1), (0), (by first | rfl | (simp; done) | (simp [*]; done)), H', ⟨Nat.le_refl _⟩, ⟨by (with_reducible repeat (first | apply Kd.R_alloc | apply Kd.R_drewN | apply Kd.R_drew)); exact HO_8.out⟩, ⟨by (with_reducible repeat (first | refine blk_drewN ?_ _ | refine blk_drew ?_ | refine blk_alloc ?_ _)); exact BK119.out⟩, ⟨by repeat (first | (with_reducible first | exact HB.out | apply below_alloc | apply pw_below_drewN | apply below_drew1 | refine below_set ?_ GE119.out) | exact HB.out)⟩⟩
                  case round =>
                    clear H'
                    try clear c1
                    try clear p1
                    try clear q1
                    try clear hx1
                    try clear p2
                    try clear c4
                    try clear c4b0
                    try clear c4b1
                    try clear c6
                    try clear c6b0
                    try clear c6b1
                    try clear p6
                    try clear c7
                    try clear c7b0
                    try clear c7b1
                    try clear c12
                    try clear p12
                    try clear q12
                    try clear hx12
                    try clear c14
                    try clear c14b0
                    try clear c15
                    try clear c15b0
                    try clear c16
                    try clear c16b0
                    try clear hcz11_0
                    try clear hcz11_1
                    try clear hcz9_0
                    try clear hcz9_1
                    try clear hfz11_0
                    try clear hfz11_1
                    try clear hfz9_0
                    try clear hfz9_1
                    try clear hx125_0
                    try clear p125
                    try clear p2
                    try clear p6
                    try clear q125
                    obtain ⟨x8_2, x35_2, rfl, HA, HK2, HO_8, BK119, HB⟩ := hrel
                    cases gk with
                    | zero => exact absurd HA.out (by simp [rot_Next.l1])
                    | succ k2 =>
                      have H := HA.out
                      clear HA
                      simp only [rot_Next.l1] at H
                      by_cases c17 : x35_2 < ((rd_L4 l1 x29_1).length : Int)
                      · rw [if_pos c17] at H
                        have c17b0 : decide (x35_2 < ((rd_L4 l1 x29_1).length : Int)) = true := decide_eq_true c17
                        clear c17
                        by_cases c18 : 0 ≤ x35_2
                        · rw [if_pos c18] at H
                          have c18b0 : decide (0 ≤ x35_2) = true := decide_eq_true c18
                          clear c18
                          by_cases c19 : x35_2 < ((rd_L4 l1 x29_1).length : Int)
                          · rw [if_pos c19] at H
                            have c19b0 : decide (x35_2 < ((rd_L4 l1 x29_1).length : Int)) = true := decide_eq_true c19
                            clear c19
                            by_cases c20 : ((rd_L4 l1 x29_1).length : Int) = 0
                            · rw [if_pos c20] at H
                              exact absurd H (by simp)
                            · rw [if_neg c20] at H
                              have c20b0 : (((rd_L4 l1 x29_1).length : Int) == 0) = false := beq_eq_false_iff_ne.mpr c20
                              have c20b1 : (((rd_L4 l1 x29_1).length : Int) != 0) = true := bne_iff_ne.mpr c20
                              have c20b2 : ¬ ((rd_L4 l1 x29_1) = []) := fun h_ => c20 (by rw [h_]; rfl)
                              obtain ⟨ji21, hji21⟩ : ∃ j_ : Int, (Int.tmod (wrap64 (x35_2 + 1)) ((rd_L4 l1 x29_1).length : Int)) = j_ := ⟨_, rfl⟩
                              replace H : (if 0 ≤ (ji21) then (if (ji21) < ((rd_L4 l1 x29_1).length : Int) then (if 0 ≤ (rd (rd_L4 l1 x29_1) x35_2) then (if (rd (rd_L4 l1 x29_1) x35_2) < (x8_2.length : Int) then (rot_Next.l1 k2 (x8_2.set ((rd (rd_L4 l1 x29_1) x35_2) : Int).toNat (rd (rd_L4 l1 x29_1) (ji21))) (rd_L4 l1 x29_1) l1 (l1.length : Int) x29_1 (rd_L4 l1 x29_1) ((rd_L4 l1 x29_1).length : Int) (wrap64 (x35_2 + 1))) else (none)) else (none)) else (none)) else (none)) = some (r1, r2) := by first | (rw [hji21] at H; exact H) | (simp only [hji21] at H ⊢; exact H)
                              by_cases c22 : 0 ≤ (ji21)
                              · rw [if_pos c22] at H
                                have c22b0 : decide (0 ≤ (ji21)) = true := decide_eq_true c22
                                clear c22
                                by_cases c23 : (ji21) < ((rd_L4 l1 x29_1).length : Int)
                                · rw [if_pos c23] at H
                                  have c23b0 : decide ((ji21) < ((rd_L4 l1 x29_1).length : Int)) = true := decide_eq_true c23
                                  clear c23
                                  by_cases c24 : 0 ≤ (rd (rd_L4 l1 x29_1) x35_2)
                                  · rw [if_pos c24] at H
                                    have c24b0 : decide (0 ≤ (rd (rd_L4 l1 x29_1) x35_2)) = true := decide_eq_true c24
                                    clear c24
                                    by_cases c25 : (rd (rd_L4 l1 x29_1) x35_2) < (x8_2.length : Int)
                                    · rw [if_pos c25] at H
                                      have c25b0 : decide ((rd (rd_L4 l1 x29_1) x35_2) < (x8_2.length : Int)) = true := decide_eq_true c25
                                      clear c25
                                      obtain ⟨y128, hy128⟩ : ∃ y_ : List Int, y_ = (x8_2.set ((rd (rd_L4 l1 x29_1) x35_2) : Int).toNat (rd (rd_L4 l1 x29_1) (ji21))) := ⟨_, rfl⟩
                                      replace H : (rot_Next.l1 k2 y128 (rd_L4 l1 x29_1) l1 (l1.length : Int) x29_1 (rd_L4 l1 x29_1) ((rd_L4 l1 x29_1).length : Int) (wrap64 (x35_2 + 1))) = some (r1, r2) := by first | (rw [hy128]; with_reducible exact H) | (have H2_ := (Option.bind_some _ _).symm.trans H; rw [hy128]; with_reducible exact H2_) | (have H2_ := (Option.bind_some _ _).symm.trans H; with_reducible exact H2_) | with_reducible exact H | (rw [hy128]; exact H) | exact H
                                      have Ny128 := Aside0.mk hy128
                                      clear hy128
                                      have H' := Aside0.mk H
                                      clear H
                                      have p126 : 0 ≤ (x35_2 : Int) := of_decide_eq_true (by first | (with_reducible assumption) | assumption)
                                      have q126 : x35_2 < ((rd_L4 l1 x29_1).length : Int) := of_decide_eq_true (by first | (with_reducible assumption) | assumption)
                                      obtain ⟨ad126, e126, hx126_0⟩ := Kd.at_int HR125_0.out x35_2 p126 q126
                                      cases e126
                                      replace hx126_0 := (HB.out.cell (World.block_lt_of_cell? w _ hx126_0)).trans hx126_0
                                      replace p126 := eq_true p126
                                      replace q126 := eq_true q126
                                      have p127 : 0 ≤ ((ji21) : Int) := of_decide_eq_true (by first | (with_reducible assumption) | assumption)
                                      have q127 : (ji21) < ((rd_L4 l1 x29_1).length : Int) := of_decide_eq_true (by first | (with_reducible assumption) | assumption)
                                      obtain ⟨ad127, e127, hx127_0⟩ := Kd.at_int HR125_0.out (ji21) p127 q127
                                      obtain rfl : ad126 = ad127 := (by injection e127)
                                      replace hx127_0 := (HB.out.cell (World.block_lt_of_cell? w _ hx127_0)).trans hx127_0
                                      replace p127 := eq_true p127
                                      replace q127 := eq_true q127
                                      have p26 : 0 ≤ ((rd (rd_L4 l1 x29_1) x35_2) : Int) := of_decide_eq_true (by first | (with_reducible assumption) | assumption)
                                      have q26 : ((rd (rd_L4 l1 x29_1) x35_2) : Int) < ((x8_2.length : Int) : Int) := of_decide_eq_true (by first | (with_reducible assumption) | assumption)
                                      obtain ⟨go26, co26, eo26, gb26, gl26, cl26, HG26⟩ := Kd.R_form HO_8.out (by omega)
                                      (first | cases eo26 | (injection eo26 with ea_ en_ ec_; (first | subst ea_ | (injection ea_ with ea_; subst ea_)); subst ec_; clear en_))
                                      have GB26 := Aside0.mk gb26
                                      have GG26 := Aside0.mk HG26
                                      clear gb26 gl26 HG26
                                      obtain ⟨hx26_0, hf26_0⟩ := Kd.R_celln 0 HO_8.out ((rd (rd_L4 l1 x29_1) x35_2) : Int) p26 q26
                                      replace p26 := eq_true p26
                                      replace q26 := eq_true q26
                                      have HP27 := Kd.R_putg HO_8.out ((rd (rd_L4 l1 x29_1) x35_2) : Int) (rd (rd_L4 l1 x29_1) (ji21))
                                      go_wp2_with (first | ((with_reducible refine gate_store (t := 3) (p := 50) rfl ?_); refine store_event (t := 3) (p := 50) (v := ?vo_w28) (w1 := (wr.setCell ⟨go26, ((rd (rd_L4 l1 x29_1) x35_2) : Int).toNat, none⟩ (.int .i64 (rd (rd_L4 l1 x29_1) (ji21))))) ?hg ?ho ?hn ?hr ?_; (case ho => rfl); (case hg => rfl); (case hn => rfl); (case hr => first | (go_simp; done) | (go_simp; rfl)); intro w28 hw; have hg : wr.grownBy w28 (some go26) := (by rw [hw]; exact HP27.2); have hp_ : Kd.R (Kd.int .i64) 3 w28 w.heap.size (fun _ => True) (.slice (some ⟨go26, 0, none⟩) x8_2.length co26) y128 := (by rw [hw, Ny128.out]; exact HP27.1); clear HP27; have n0_ := Aside0.mk (hp_); have n1_ := Aside0.mk (blk_grown (g := gb119) (o := .cells #[.int .i64 a0_0, .slice A0_1 l0_1.length c0_1] 24 (0, 0)) (by (with_reducible repeat (first | refine blk_drewN ?_ _ | refine blk_drew ?_ | refine blk_alloc ?_ _)); exact BK119.out) hg (Kd.R_ne HO_8.out BK119.out (by decide))); have n2_ := Aside0.mk ((by rw [hw]; exact below_set (HB.out) GB26.out : Below w.heap.size w w28)); clear HO_8; clear BK119; clear HB; have HO_8 := n0_; have BK119 := n1_; have HB := n2_; clear n0_ n1_ n2_; clear hg hw hp_))
                                      go_roundg k2
                                      case measure => have := HK1.out; have := HK2.out; omega
                                      case rel => exact ⟨(y128), (wrap64 (x35_2 + 1)), (by first | rfl | (simp; done) | (simp [*]; done)), H', ⟨by have := HK1.out; have := HK2.out; omega⟩, ⟨by (with_reducible repeat (first | apply Kd.R_alloc | apply Kd.R_drewN | apply Kd.R_drew)); exact HO_8.out⟩, ⟨by (with_reducible repeat (first | refine blk_drewN ?_ _ | refine blk_drew ?_ | refine blk_alloc ?_ _)); exact BK119.out⟩, ⟨by repeat (first | (with_reducible first | exact HB.out | apply below_alloc | apply pw_below_drewN | apply below_drew1 | refine below_set ?_ GE119.out) | exact HB.out)⟩⟩
                                    · rw [if_neg c25] at H
                                      exact absurd H (by simp)
                                  · rw [if_neg c24] at H
                                    exact absurd H (by simp)
                                · rw [if_neg c23] at H
                                  exact absurd H (by simp)
                              · rw [if_neg c22] at H
                                exact absurd H (by simp)
                          · rw [if_neg c19] at H
                            exact absurd H (by simp)
                        · rw [if_neg c18] at H
                          exact absurd H (by simp)
                      · rw [if_neg c17] at H
                        have c17b0 : decide (x35_2 < ((rd_L4 l1 x29_1).length : Int)) = false := decide_eq_false c17
                        clear c17
                        have H' := Aside0.mk H
                        clear H
                        go_wp2
                        go_roundg k2
                        case measure => have := HK1.out; have := HK2.out; omega
                        case rel => exact ⟨(x8_2), (wrap64 (x29_1 + 1)), (by first | rfl | (simp; done) | (simp [*]; done)), H', ⟨by have := HK1.out; have := HK2.out; omega⟩, ⟨by (with_reducible repeat (first | apply Kd.R_alloc | apply Kd.R_drewN | apply Kd.R_drew)); exact HO_8.out⟩, ⟨by (with_reducible repeat (first | refine blk_drewN ?_ _ | refine blk_drew ?_ | refine blk_alloc ?_ _)); exact BK119.out⟩, ⟨by repeat (first | (with_reducible first | exact HB.out | apply below_alloc | apply pw_below_drewN | apply below_drew1 | refine below_set ?_ GE119.out) | exact HB.out)⟩⟩
                · rw [if_neg c16] at H
                  exact absurd H (by simp)
              · rw [if_neg c15] at H
                exact absurd H (by simp)
            · rw [if_neg c14] at H
              have c14b0 : decide (x29_1 < (l1.length : Int)) = false := decide_eq_false c14
              clear c14
              simp only [Option.some.injEq, Prod.mk.injEq] at H
              obtain ⟨rfl, rfl⟩ := H
              go_wp2
              go_ret2
              exact ⟨_, by first | rfl | (simp [errW_none, errW_some] <;> rfl) | (simp only [← hji5]; first | rfl | (simp [errW_none, errW_some] <;> rfl)) | (simp [*, errW_none, errW_some] <;> rfl), by (with_reducible repeat (first | apply Kd.R_alloc | apply Kd.R_drewN | apply Kd.R_drew)); exact HO_8.out, by repeat (first | (with_reducible first | exact HB.out | apply below_alloc | apply pw_below_drewN | apply below_drew1 | refine below_set ?_ GE119.out) | exact HB.out)⟩
      · rw [if_neg c7] at H
        exact absurd H (by simp)
    · rw [if_neg c6] at H
      exact absurd H (by simp)
  · rw [if_neg c4] at H
    have c4b0 : (t121 == 0) = false := beq_eq_false_iff_ne.mpr c4
    have c4b1 : (t121 != 0) = true := bne_iff_ne.mpr c4
    simp only [Option.some.injEq, Prod.mk.injEq] at H
    obtain ⟨rfl, rfl⟩ := H
    go_enter Try.func12, Try.ntmps12
    go_wp2_with (first | ((with_reducible refine gate_dst (N := 2) rfl ?_); refine box_event ?hg (N := 2) ?hd (cs := #[.int .i64 a0_0, .slice A0_1 l0_1.length c0_1]) (t := 24) ?hr ?_; (case hd => rfl); (case hg => rfl); (case hr => first | (go_simp; done) | (go_simp; rfl)); intro gb119 hg w29 hbox hb; have n0_ := Aside0.mk (below_step (by repeat (first | (with_reducible first | exact HB.out | apply below_alloc | apply pw_below_drewN | apply below_drew1) | exact HB.out)) hb); have n1_ := Aside0.mk (hbox); have n2_ := Aside0.mk ((by rw [hg]; exact (below_size (by repeat (first | (with_reducible first | exact HB.out | apply below_alloc | apply pw_below_drewN | apply below_drew1) | exact HB.out))) : w.heap.size ≤ gb119)); have n3_ := Aside0.mk ((by rw [hg]; exact (below_size (by repeat (first | (with_reducible first | exact HB.out | apply below_alloc | apply pw_below_drewN | apply below_drew1) | exact HB.out))) : w.heap.size ≤ gb119)); clear HB; have HB := n0_; have BK119 := n1_; have GW119 := n2_; have GE119 := n3_; clear n0_ n1_ n2_ n3_; clear hb hbox hg; have hcz30_0 : w29.cell? ⟨gb119, 0, none⟩ = some (.int .i64 a0_0) := (blk_cell BK119.out 0).trans rfl; have hcz30_1 : w29.cell? ⟨gb119, 1, none⟩ = some (.slice A0_1 l0_1.length c0_1) := (blk_cell BK119.out 1).trans rfl; have hfz30_0 := blk_frozen BK119.out 0; have hfz30_1 := blk_frozen BK119.out 1) | ((with_reducible refine gate_callee (f := 15) rfl ?_); refine goesL_ (some 16) rfl rfl Try.func15 (by kernel_rfl) rfl #[.agg #[.int .i64 a0_0, .slice A0_1 l0_1.length c0_1], .slice A1 l1.length c1] rfl (by (try simp only [List.map_toArray, List.map_cons, List.map_nil]); first | done | rfl | (simp only [List.length_drop, List.length_take]; rfl)) ?_; (with_reducible refine (rot_Check.calls k a0_0 _ _ l0_1 _ _ l1 t120 t121 _ ?side1 ?side2 ?side3 ?side4 A3.out).mono ?_); (case side1 => repeat (first | exact (Kd.C_below HR0_1.out HB.out) | (with_reducible refine Kd.C_alloc ?_ _) | (with_reducible refine Kd.C_drewN ?_ _) | (with_reducible refine Kd.C_drew ?_))); (case side2 => exact HC0_1.out); (case side3 => repeat (first | exact (Kd.C_below HR1.out HB.out) | (with_reducible refine Kd.C_alloc ?_ _) | (with_reducible refine Kd.C_drewN ?_ _) | (with_reducible refine Kd.C_drew ?_))); (case side4 => exact HC1.out); rintro e w31 ⟨rfl, hb⟩; refine ⟨_, rfl, ?_⟩; have n0_ := Aside0.mk (blk_below (g := gb119) (o := .cells #[.int .i64 a0_0, .slice A0_1 l0_1.length c0_1] 24 (0, 0)) (by (with_reducible repeat (first | refine blk_drewN ?_ _ | refine blk_drew ?_ | refine blk_alloc ?_ _)); exact BK119.out) hb); have n1_ := Aside0.mk (below_step (by repeat (first | (with_reducible first | exact HB.out | apply below_alloc | apply pw_below_drewN | apply below_drew1 | refine below_set ?_ GE119.out) | exact HB.out)) hb); clear BK119; clear HB; have BK119 := n0_; have HB := n1_; clear n0_ n1_; (try clear hb); (try clear hb2); (try clear hk); (try clear hi)))
    go_ret2
    exact ⟨_, by first | rfl | (simp [errW_none, errW_some] <;> rfl) | (simp [*, errW_none, errW_some] <;> rfl), by first | exact Kd.R_nil _ _ _ _ _ | exact Kd.N_nil _ _ _ _ _ | exact Kd.V_nil _ _ _ _ _ | exact Kd.Q_nil _ _ _ _ _ | exact Kd.S_nil _ _ _ _ _, by repeat (first | (with_reducible first | exact HB.out | apply below_alloc | apply pw_below_drewN | apply below_drew1 | refine below_set ?_ GE119.out) | exact HB.out)⟩

end Go.Proofs.Ytkkhhbegeboonaa.GAll
-- Written by a program of this session (wip/tools/printx.py) over the kit's printer and texts of its own; it is no print of print.sh.

namespace Go.Proofs.Ytkkhhbegeboonaa.GAll
open Go.RowKit Go.Proofs.YtkkhhbegeboonaaW.PrintWords Go.Proofs.YtkkhhbegeboonaaW.PrintLast Go.Proofs.YtkkhhbegeboonaaW.PrintMore
attribute [local go_sem] max2_int min2_int max_two min_two max_three min_three max_four min_four   -- for this text's walks alone
set_option linter.unusedVariables false
set_option linter.unusedSimpArgs false

/-! ### tangramref11_Alike: function 20 -/
def tangramref11_Alike.l0 : Nat → List Int → List Int → Int → Option (Bool)
  | 0, _, _, _ => none
  | k + 1, x0, x1, x5 => if x5 < (x0.length : Int) then (if 0 ≤ x5 then (if x5 < (x1.length : Int) then (if (rd x0 x5) = (rd x1 x5) then (tangramref11_Alike.l0 k x0 x1 (wrap64 (x5 + 1))) else (some false)) else (none)) else (none)) else (some true)
def tangramref11_Alike.f (k : Nat) (l0 : List Int) (l1 : List Int) : Option (Bool) := if (l0.length : Int) = (l1.length : Int) then (tangramref11_Alike.l0 k l0 l1 0) else (some false)
theorem tangramref11_Alike.mono_l : ∀ k, (∀ y0 y1 y2, LeO (tangramref11_Alike.l0 k y0 y1 y2) (tangramref11_Alike.l0 (k + 1) y0 y1 y2))
  | 0 => fun _ _ _ r h => by simp [tangramref11_Alike.l0] at h
  | k + 1 => by
    have ih0 := tangramref11_Alike.mono_l k
    · intro y0 y1 y2
      unfold tangramref11_Alike.l0
      repeat' first
      | (with_reducible exact ih0 _ _ _)
      | (with_reducible exact LeO.refl _)
      | (with_reducible exact LeO.none _)
      | (with_reducible refine LeO.ite ?_ ?_)
      | (with_reducible refine LeO.bind ?_ (fun _ => ?_))
      | exact ih0 _ _ _
      | exact LeO.none _
      | refine LeO.ite ?_ ?_
      | refine LeO.bind ?_ (fun _ => ?_)
theorem tangramref11_Alike.mono : ∀ a0 a1 k, LeO (tangramref11_Alike.f k a0 a1) (tangramref11_Alike.f (k + 1) a0 a1) := by
  intro a0 a1 k
  have ih0 := tangramref11_Alike.mono_l k
  unfold tangramref11_Alike.f
  repeat' first
      | (with_reducible exact ih0 _ _ _)
      | (with_reducible exact LeO.refl _)
      | (with_reducible exact LeO.none _)
      | (with_reducible refine LeO.ite ?_ ?_)
      | (with_reducible refine LeO.bind ?_ (fun _ => ?_))
      | exact ih0 _ _ _
      | exact LeO.none _
      | refine LeO.ite ?_ ?_
      | refine LeO.bind ?_ (fun _ => ?_)
set_option maxHeartbeats 8000000 in
set_option maxRecDepth 100000 in
theorem tangramref11_Alike.calls (k : Nat) (A0 : Option Addr) (c0 : Nat) (l0 : List Int) (A1 : Option Addr) (c1 : Nat) (l1 : List Int) (r : Bool) (w : World) (hr0 : Kd.C (Kd.int .i64) w A0 l0.length l0) (hc0 : l0.length ≤ c0) (hr1 : Kd.C (Kd.int .i64) w A1 l1.length l1) (hc1 : l1.length ≤ c1) (h : tangramref11_Alike.f k l0 l1 = some r) :
    Calls Try.prog 20 #[.slice A0 l0.length c0, .slice A1 l1.length c1] w fun e w' => e = .returned (.bool r) ∧ Drawn0 w w' := by
  have HR0 := Aside0.mk hr0
  have HC0 := Aside0.mk hc0
  clear hr0 hc0
  have HR1 := Aside0.mk hr1
  have HC1 := Aside0.mk hc1
  clear hr1 hc1
  have H : (if (l0.length : Int) = (l1.length : Int) then (tangramref11_Alike.l0 k l0 l1 0) else (some false)) = some r := h
  clear h
  by_cases c3 : (l0.length : Int) = (l1.length : Int)
  · rw [if_pos c3] at H
    have c3b0 : ((l0.length : Int) == (l1.length : Int)) = true := beq_iff_eq.mpr c3
    have c3b1 : ((l0.length : Int) != (l1.length : Int)) = false := bne_eq_false_iff_eq.mpr c3
    have c3b2 : (l0.length == l1.length) = true := by first | simpa using c3 | (simp at c3 ⊢; omega)
    clear c3
    have H' := Aside0.mk H
    clear H
    go_enter Try.func20, Try.ntmps20
    go_wp2
    repeat (go_quiet (fail); try go_wp2)
    go_loopg [5] k (fun kq v5 w' => ∃ (x5_1 : Int), v5 = .int .i64 x5_1 ∧ Aside0 (tangramref11_Alike.l0 kq l0 l1 x5_1 = some r) ∧ Aside0 (kq ≤ k) ∧ Drawn0 w w')
    case atStart => exact ⟨(0), (by first | rfl | (simp; done) | (simp [*]; done)), H', ⟨Nat.le_refl _⟩, by repeat (first | exact Drawn0.refl _ | apply Drawn0.step)⟩
    case round =>
      clear H'
      try clear c1
      try clear c2
      try clear p2
      try clear c3
      try clear c3b0
      try clear c3b1
      try clear c3b2
      obtain ⟨x5_1, rfl, HA, HK1, ⟨m1, rfl⟩⟩ := hrel
      cases gk with
      | zero => exact absurd HA.out (by simp [tangramref11_Alike.l0])
      | succ k1 =>
        have H := HA.out
        clear HA
        simp only [tangramref11_Alike.l0] at H
        by_cases c4 : x5_1 < (l0.length : Int)
        · rw [if_pos c4] at H
          have c4b0 : decide (x5_1 < (l0.length : Int)) = true := decide_eq_true c4
          clear c4
          by_cases c5 : 0 ≤ x5_1
          · rw [if_pos c5] at H
            have c5b0 : decide (0 ≤ x5_1) = true := decide_eq_true c5
            clear c5
            by_cases c6 : x5_1 < (l1.length : Int)
            · rw [if_pos c6] at H
              have c6b0 : decide (x5_1 < (l1.length : Int)) = true := decide_eq_true c6
              clear c6
              by_cases c7 : (rd l0 x5_1) = (rd l1 x5_1)
              · rw [if_pos c7] at H
                have c7b0 : ((rd l0 x5_1) == (rd l1 x5_1)) = true := beq_iff_eq.mpr c7
                have c7b1 : ((rd l0 x5_1) != (rd l1 x5_1)) = false := bne_eq_false_iff_eq.mpr c7
                clear c7
                have H' := Aside0.mk H
                clear H
                have p129 : 0 ≤ (x5_1 : Int) := of_decide_eq_true (by first | (with_reducible assumption) | assumption)
                have q129 : x5_1 < (l0.length : Int) := of_decide_eq_true (by first | (with_reducible assumption) | assumption)
                obtain ⟨ad129, e129, hx129_0⟩ := Kd.at_int HR0.out x5_1 p129 q129
                cases e129
                replace p129 := eq_true p129
                replace q129 := eq_true q129
                have p130 : 0 ≤ (x5_1 : Int) := of_decide_eq_true (by first | (with_reducible assumption) | assumption)
                have q130 : x5_1 < (l1.length : Int) := of_decide_eq_true (by first | (with_reducible assumption) | assumption)
                obtain ⟨ad130, e130, hx130_0⟩ := Kd.at_int HR1.out x5_1 p130 q130
                cases e130
                replace p130 := eq_true p130
                replace q130 := eq_true q130
                go_wp2
                repeat (go_quiet (fail); try go_wp2)
                go_roundg k1
                case measure => have := HK1.out; omega
                case rel => exact ⟨(wrap64 (x5_1 + 1)), (by first | rfl | (simp; done) | (simp [*]; done)), H', ⟨by have := HK1.out; omega⟩, by repeat (first | exact Drawn0.refl _ | apply Drawn0.step)⟩
              · rw [if_neg c7] at H
                have c7b0 : ((rd l0 x5_1) == (rd l1 x5_1)) = false := beq_eq_false_iff_ne.mpr c7
                have c7b1 : ((rd l0 x5_1) != (rd l1 x5_1)) = true := bne_iff_ne.mpr c7
                obtain rfl := Option.some.inj H
                have p129 : 0 ≤ (x5_1 : Int) := of_decide_eq_true (by first | (with_reducible assumption) | assumption)
                have q129 : x5_1 < (l0.length : Int) := of_decide_eq_true (by first | (with_reducible assumption) | assumption)
                obtain ⟨ad129, e129, hx129_0⟩ := Kd.at_int HR0.out x5_1 p129 q129
                cases e129
                replace p129 := eq_true p129
                replace q129 := eq_true q129
                have p130 : 0 ≤ (x5_1 : Int) := of_decide_eq_true (by first | (with_reducible assumption) | assumption)
                have q130 : x5_1 < (l1.length : Int) := of_decide_eq_true (by first | (with_reducible assumption) | assumption)
                obtain ⟨ad130, e130, hx130_0⟩ := Kd.at_int HR1.out x5_1 p130 q130
                cases e130
                replace p130 := eq_true p130
                replace q130 := eq_true q130
                go_wp2
                repeat (go_quiet (fail); try go_wp2)
                go_ret
                exact ⟨by first | rfl | (simp; done) | (simp [*]; done), by repeat (first | exact Drawn0.refl _ | apply Drawn0.step)⟩
            · rw [if_neg c6] at H
              exact absurd H (by simp)
          · rw [if_neg c5] at H
            exact absurd H (by simp)
        · rw [if_neg c4] at H
          have c4b0 : decide (x5_1 < (l0.length : Int)) = false := decide_eq_false c4
          clear c4
          obtain rfl := Option.some.inj H
          go_wp2
          repeat (go_quiet (fail); try go_wp2)
          go_ret
          exact ⟨by first | rfl | (simp; done) | (simp [*]; done), by repeat (first | exact Drawn0.refl _ | apply Drawn0.step)⟩
  · rw [if_neg c3] at H
    have c3b0 : ((l0.length : Int) == (l1.length : Int)) = false := beq_eq_false_iff_ne.mpr c3
    have c3b1 : ((l0.length : Int) != (l1.length : Int)) = true := bne_iff_ne.mpr c3
    have c3b2 : (l0.length == l1.length) = false := by first | simpa using c3 | (simp at c3 ⊢; omega)
    obtain rfl := Option.some.inj H
    go_enter Try.func20, Try.ntmps20
    go_wp2
    repeat (go_quiet (fail); try go_wp2)
    go_ret
    exact ⟨by first | rfl | (simp; done) | (simp [*]; done), by repeat (first | exact Drawn0.refl _ | apply Drawn0.step)⟩

end Go.Proofs.Ytkkhhbegeboonaa.GAll
-- Written by a program of this session (wip/tools/printx.py) over the kit's printer and texts of its own; it is no print of print.sh.


namespace Go.Proofs.Ytkkhhbegeboonaa.GAll
open Go.RowKit Go.Proofs.YtkkhhbegeboonaaW.PrintWords Go.Proofs.YtkkhhbegeboonaaW.PrintLast Go.Proofs.YtkkhhbegeboonaaW.PrintMore
attribute [local go_sem] max2_int min2_int max_two min_two max_three min_three max_four min_four   -- for this text's walks alone
set_option linter.unusedVariables false
set_option linter.unusedSimpArgs false

/-! ### tangramref11_Equal: function 21 -/
def tangramref11_Equal.l0 : Nat → List (List Int) → List (List Int) → Int → Option (Bool)
  | 0, _, _, _ => none
  | k + 1, x0, x1, x5 => if x5 < (x0.length : Int) then (if 0 ≤ x5 then (if x5 < (x1.length : Int) then ((tangramref11_Alike.f k (rd_L4 x0 x5) (rd_L4 x1 x5)).bind fun t133 => (if t133 = true then (tangramref11_Equal.l0 k x0 x1 (wrap64 (x5 + 1))) else (some false))) else (none)) else (none)) else (some true)
def tangramref11_Equal.f (k : Nat) (l0 : List (List Int)) (l1 : List (List Int)) : Option (Bool) := if (l0.length : Int) = (l1.length : Int) then (tangramref11_Equal.l0 k l0 l1 0) else (some false)
theorem tangramref11_Equal.mono_l : ∀ k, (∀ y0 y1 y2, LeO (tangramref11_Equal.l0 k y0 y1 y2) (tangramref11_Equal.l0 (k + 1) y0 y1 y2))
  | 0 => fun _ _ _ r h => by simp [tangramref11_Equal.l0] at h
  | k + 1 => by
    have ih0 := tangramref11_Equal.mono_l k
    · intro y0 y1 y2
      unfold tangramref11_Equal.l0
      repeat' first
      | (with_reducible exact ih0 _ _ _)
      | (with_reducible exact tangramref11_Alike.mono _ _ _)
      | (with_reducible exact LeO.refl _)
      | (with_reducible exact LeO.none _)
      | (with_reducible refine LeO.ite ?_ ?_)
      | (with_reducible refine LeO.bind ?_ (fun _ => ?_))
      | exact ih0 _ _ _
      | exact tangramref11_Alike.mono _ _ _
      | exact LeO.none _
      | refine LeO.ite ?_ ?_
      | refine LeO.bind ?_ (fun _ => ?_)
theorem tangramref11_Equal.mono : ∀ a0 a1 k, LeO (tangramref11_Equal.f k a0 a1) (tangramref11_Equal.f (k + 1) a0 a1) := by
  intro a0 a1 k
  have ih0 := tangramref11_Equal.mono_l k
  unfold tangramref11_Equal.f
  repeat' first
      | (with_reducible exact ih0 _ _ _)
      | (with_reducible exact tangramref11_Alike.mono _ _ _)
      | (with_reducible exact LeO.refl _)
      | (with_reducible exact LeO.none _)
      | (with_reducible refine LeO.ite ?_ ?_)
      | (with_reducible refine LeO.bind ?_ (fun _ => ?_))
      | exact ih0 _ _ _
      | exact tangramref11_Alike.mono _ _ _
      | exact LeO.none _
      | refine LeO.ite ?_ ?_
      | refine LeO.bind ?_ (fun _ => ?_)
set_option maxHeartbeats 8000000 in
set_option maxRecDepth 100000 in
theorem tangramref11_Equal.calls (k : Nat) (A0 : Option Addr) (c0 : Nat) (l0 : List (List Int)) (A1 : Option Addr) (c1 : Nat) (l1 : List (List Int)) (r : Bool) (w : World) (hr0 : Kd.C (Kd.slice 3 (Kd.int .i64)) w A0 l0.length l0) (hc0 : l0.length ≤ c0) (hr1 : Kd.C (Kd.slice 3 (Kd.int .i64)) w A1 l1.length l1) (hc1 : l1.length ≤ c1) (h : tangramref11_Equal.f k l0 l1 = some r) :
    Calls Try.prog 21 #[.slice A0 l0.length c0, .slice A1 l1.length c1] w fun e w' => e = .returned (.bool r) ∧ Drawn0 w w' := by
  have HR0 := Aside0.mk hr0
  have HC0 := Aside0.mk hc0
  clear hr0 hc0
  have HR1 := Aside0.mk hr1
  have HC1 := Aside0.mk hc1
  clear hr1 hc1
  have H : (if (l0.length : Int) = (l1.length : Int) then (tangramref11_Equal.l0 k l0 l1 0) else (some false)) = some r := h
  clear h
  by_cases c3 : (l0.length : Int) = (l1.length : Int)
  · rw [if_pos c3] at H
    have c3b0 : ((l0.length : Int) == (l1.length : Int)) = true := beq_iff_eq.mpr c3
    have c3b1 : ((l0.length : Int) != (l1.length : Int)) = false := bne_eq_false_iff_eq.mpr c3
    have c3b2 : (l0.length == l1.length) = true := by first | simpa using c3 | (simp at c3 ⊢; omega)
    clear c3
    have H' := Aside0.mk H
    clear H
    go_enter Try.func21, Try.ntmps21
    go_wp2
    repeat (go_quiet (fail); try go_wp2)
    go_loopg [5] k (fun kq v5 w' => ∃ (x5_1 : Int), v5 = .int .i64 x5_1 ∧ Aside0 (tangramref11_Equal.l0 kq l0 l1 x5_1 = some r) ∧ Aside0 (kq ≤ k) ∧ Drawn0 w w')
    case atStart => exact ⟨(0), (by first | rfl | (simp; done) | (simp [*]; done)), H', ⟨Nat.le_refl _⟩, by repeat (first | exact Drawn0.refl _ | apply Drawn0.step)⟩
    case round =>
      clear H'
      try clear c1
      try clear c2
      try clear p2
      try clear c3
      try clear c3b0
      try clear c3b1
      try clear c3b2
      obtain ⟨x5_1, rfl, HA, HK1, ⟨m1, rfl⟩⟩ := hrel
      cases gk with
      | zero => exact absurd HA.out (by simp [tangramref11_Equal.l0])
      | succ k1 =>
        have H := HA.out
        clear HA
        simp only [tangramref11_Equal.l0] at H
        by_cases c4 : x5_1 < (l0.length : Int)
        · rw [if_pos c4] at H
          have c4b0 : decide (x5_1 < (l0.length : Int)) = true := decide_eq_true c4
          clear c4
          by_cases c5 : 0 ≤ x5_1
          · rw [if_pos c5] at H
            have c5b0 : decide (0 ≤ x5_1) = true := decide_eq_true c5
            clear c5
            by_cases c6 : x5_1 < (l1.length : Int)
            · rw [if_pos c6] at H
              have c6b0 : decide (x5_1 < (l1.length : Int)) = true := decide_eq_true c6
              clear c6
              replace H := Option.bind_eq_some_iff.mp H
              obtain ⟨t133, A70, H⟩ := H
              replace H : (if t133 = true then (tangramref11_Equal.l0 k1 l0 l1 (wrap64 (x5_1 + 1))) else (some false)) = some r := H
              have A7 := Aside0.mk A70
              clear A70
              by_cases c8 : t133 = true
              · subst c8
                have H1 : (tangramref11_Equal.l0 k1 l0 l1 (wrap64 (x5_1 + 1))) = some r := by rw [if_pos rfl] at H; exact H
                clear H
                have H := H1
                clear H1
                have H' := Aside0.mk H
                clear H
                have p131 : 0 ≤ (x5_1 : Int) := of_decide_eq_true (by first | (with_reducible assumption) | assumption)
                have q131 : x5_1 < (l0.length : Int) := of_decide_eq_true (by first | (with_reducible assumption) | assumption)
                obtain ⟨ad131, A131_0, c131_0, e131, hx131_0, hl131_0, hi131_0⟩ := at_L4 HR0.out x5_1 p131 q131
                cases e131
                have HR131_0 := Aside0.mk hi131_0
                have HC131_0 := Aside0.mk hl131_0
                clear hi131_0 hl131_0
                replace p131 := eq_true p131
                replace q131 := eq_true q131
                have p132 : 0 ≤ (x5_1 : Int) := of_decide_eq_true (by first | (with_reducible assumption) | assumption)
                have q132 : x5_1 < (l1.length : Int) := of_decide_eq_true (by first | (with_reducible assumption) | assumption)
                obtain ⟨ad132, A132_0, c132_0, e132, hx132_0, hl132_0, hi132_0⟩ := at_L4 HR1.out x5_1 p132 q132
                cases e132
                have HR132_0 := Aside0.mk hi132_0
                have HC132_0 := Aside0.mk hl132_0
                clear hi132_0 hl132_0
                replace p132 := eq_true p132
                replace q132 := eq_true q132
                go_wp2_with (first | (go_at_call 20; (with_reducible refine (tangramref11_Alike.calls k1 _ _ (rd_L4 l0 x5_1) _ _ (rd_L4 l1 x5_1) true _ ?side1 ?side2 ?side3 ?side4 A7.out).mono ?_); (case side1 => repeat (first | exact HR131_0.out | (with_reducible refine Kd.C_alloc ?_ _) | (with_reducible refine Kd.C_drewN ?_ _) | (with_reducible refine Kd.C_drew ?_))); (case side2 => exact HC131_0.out); (case side3 => repeat (first | exact HR132_0.out | (with_reducible refine Kd.C_alloc ?_ _) | (with_reducible refine Kd.C_drewN ?_ _) | (with_reducible refine Kd.C_drew ?_))); (case side4 => exact HC132_0.out); rintro e w' ⟨rfl, ⟨nd, rfl⟩⟩; (try first | exact ⟨rfl, _, World.drewN_drewN _ _ _⟩ | exact ⟨rfl, _, Eq.trans (World.drewN_drewN _ _ _) (congrArg (World.drewN _) (Nat.add_assoc _ _ _))⟩)))
                repeat (go_quiet (first | (go_at_call 20; (with_reducible refine (tangramref11_Alike.calls k1 _ _ (rd_L4 l0 x5_1) _ _ (rd_L4 l1 x5_1) true _ ?side1 ?side2 ?side3 ?side4 A7.out).mono ?_); (case side1 => repeat (first | exact HR131_0.out | (with_reducible refine Kd.C_alloc ?_ _) | (with_reducible refine Kd.C_drewN ?_ _) | (with_reducible refine Kd.C_drew ?_))); (case side2 => exact HC131_0.out); (case side3 => repeat (first | exact HR132_0.out | (with_reducible refine Kd.C_alloc ?_ _) | (with_reducible refine Kd.C_drewN ?_ _) | (with_reducible refine Kd.C_drew ?_))); (case side4 => exact HC132_0.out); rintro e w' ⟨rfl, ⟨nd, rfl⟩⟩; (try first | exact ⟨rfl, _, World.drewN_drewN _ _ _⟩ | exact ⟨rfl, _, Eq.trans (World.drewN_drewN _ _ _) (congrArg (World.drewN _) (Nat.add_assoc _ _ _))⟩))); try go_wp2_with (first | (go_at_call 20; (with_reducible refine (tangramref11_Alike.calls k1 _ _ (rd_L4 l0 x5_1) _ _ (rd_L4 l1 x5_1) true _ ?side1 ?side2 ?side3 ?side4 A7.out).mono ?_); (case side1 => repeat (first | exact HR131_0.out | (with_reducible refine Kd.C_alloc ?_ _) | (with_reducible refine Kd.C_drewN ?_ _) | (with_reducible refine Kd.C_drew ?_))); (case side2 => exact HC131_0.out); (case side3 => repeat (first | exact HR132_0.out | (with_reducible refine Kd.C_alloc ?_ _) | (with_reducible refine Kd.C_drewN ?_ _) | (with_reducible refine Kd.C_drew ?_))); (case side4 => exact HC132_0.out); rintro e w' ⟨rfl, ⟨nd, rfl⟩⟩; (try first | exact ⟨rfl, _, World.drewN_drewN _ _ _⟩ | exact ⟨rfl, _, Eq.trans (World.drewN_drewN _ _ _) (congrArg (World.drewN _) (Nat.add_assoc _ _ _))⟩))))
                go_roundg k1
                case measure => have := HK1.out; omega
                case rel => exact ⟨(wrap64 (x5_1 + 1)), (by first | rfl | (simp; done) | (simp [*]; done)), H', ⟨by have := HK1.out; omega⟩, by repeat (first | exact Drawn0.refl _ | apply Drawn0.step)⟩
              · replace c8 := Bool.eq_false_iff.mpr c8
                subst c8
                have H1 : (some false) = some r := by rw [if_neg (show ¬ (false = true) by decide)] at H; exact H
                clear H
                have H := H1
                clear H1
                obtain rfl := Option.some.inj H
                have p131 : 0 ≤ (x5_1 : Int) := of_decide_eq_true (by first | (with_reducible assumption) | assumption)
                have q131 : x5_1 < (l0.length : Int) := of_decide_eq_true (by first | (with_reducible assumption) | assumption)
                obtain ⟨ad131, A131_0, c131_0, e131, hx131_0, hl131_0, hi131_0⟩ := at_L4 HR0.out x5_1 p131 q131
                cases e131
                have HR131_0 := Aside0.mk hi131_0
                have HC131_0 := Aside0.mk hl131_0
                clear hi131_0 hl131_0
                replace p131 := eq_true p131
                replace q131 := eq_true q131
                have p132 : 0 ≤ (x5_1 : Int) := of_decide_eq_true (by first | (with_reducible assumption) | assumption)
                have q132 : x5_1 < (l1.length : Int) := of_decide_eq_true (by first | (with_reducible assumption) | assumption)
                obtain ⟨ad132, A132_0, c132_0, e132, hx132_0, hl132_0, hi132_0⟩ := at_L4 HR1.out x5_1 p132 q132
                cases e132
                have HR132_0 := Aside0.mk hi132_0
                have HC132_0 := Aside0.mk hl132_0
                clear hi132_0 hl132_0
                replace p132 := eq_true p132
                replace q132 := eq_true q132
                go_wp2_with (first | (go_at_call 20; (with_reducible refine (tangramref11_Alike.calls k1 _ _ (rd_L4 l0 x5_1) _ _ (rd_L4 l1 x5_1) false _ ?side1 ?side2 ?side3 ?side4 A7.out).mono ?_); (case side1 => repeat (first | exact HR131_0.out | (with_reducible refine Kd.C_alloc ?_ _) | (with_reducible refine Kd.C_drewN ?_ _) | (with_reducible refine Kd.C_drew ?_))); (case side2 => exact HC131_0.out); (case side3 => repeat (first | exact HR132_0.out | (with_reducible refine Kd.C_alloc ?_ _) | (with_reducible refine Kd.C_drewN ?_ _) | (with_reducible refine Kd.C_drew ?_))); (case side4 => exact HC132_0.out); rintro e w' ⟨rfl, ⟨nd, rfl⟩⟩; (try first | exact ⟨rfl, _, World.drewN_drewN _ _ _⟩ | exact ⟨rfl, _, Eq.trans (World.drewN_drewN _ _ _) (congrArg (World.drewN _) (Nat.add_assoc _ _ _))⟩)))
                repeat (go_quiet (first | (go_at_call 20; (with_reducible refine (tangramref11_Alike.calls k1 _ _ (rd_L4 l0 x5_1) _ _ (rd_L4 l1 x5_1) false _ ?side1 ?side2 ?side3 ?side4 A7.out).mono ?_); (case side1 => repeat (first | exact HR131_0.out | (with_reducible refine Kd.C_alloc ?_ _) | (with_reducible refine Kd.C_drewN ?_ _) | (with_reducible refine Kd.C_drew ?_))); (case side2 => exact HC131_0.out); (case side3 => repeat (first | exact HR132_0.out | (with_reducible refine Kd.C_alloc ?_ _) | (with_reducible refine Kd.C_drewN ?_ _) | (with_reducible refine Kd.C_drew ?_))); (case side4 => exact HC132_0.out); rintro e w' ⟨rfl, ⟨nd, rfl⟩⟩; (try first | exact ⟨rfl, _, World.drewN_drewN _ _ _⟩ | exact ⟨rfl, _, Eq.trans (World.drewN_drewN _ _ _) (congrArg (World.drewN _) (Nat.add_assoc _ _ _))⟩))); try go_wp2_with (first | (go_at_call 20; (with_reducible refine (tangramref11_Alike.calls k1 _ _ (rd_L4 l0 x5_1) _ _ (rd_L4 l1 x5_1) false _ ?side1 ?side2 ?side3 ?side4 A7.out).mono ?_); (case side1 => repeat (first | exact HR131_0.out | (with_reducible refine Kd.C_alloc ?_ _) | (with_reducible refine Kd.C_drewN ?_ _) | (with_reducible refine Kd.C_drew ?_))); (case side2 => exact HC131_0.out); (case side3 => repeat (first | exact HR132_0.out | (with_reducible refine Kd.C_alloc ?_ _) | (with_reducible refine Kd.C_drewN ?_ _) | (with_reducible refine Kd.C_drew ?_))); (case side4 => exact HC132_0.out); rintro e w' ⟨rfl, ⟨nd, rfl⟩⟩; (try first | exact ⟨rfl, _, World.drewN_drewN _ _ _⟩ | exact ⟨rfl, _, Eq.trans (World.drewN_drewN _ _ _) (congrArg (World.drewN _) (Nat.add_assoc _ _ _))⟩))))
                go_ret
                exact ⟨by first | rfl | (simp; done) | (simp [*]; done), by repeat (first | exact Drawn0.refl _ | apply Drawn0.step)⟩
            · rw [if_neg c6] at H
              exact absurd H (by simp)
          · rw [if_neg c5] at H
            exact absurd H (by simp)
        · rw [if_neg c4] at H
          have c4b0 : decide (x5_1 < (l0.length : Int)) = false := decide_eq_false c4
          clear c4
          obtain rfl := Option.some.inj H
          go_wp2
          repeat (go_quiet (fail); try go_wp2)
          go_ret
          exact ⟨by first | rfl | (simp; done) | (simp [*]; done), by repeat (first | exact Drawn0.refl _ | apply Drawn0.step)⟩
  · rw [if_neg c3] at H
    have c3b0 : ((l0.length : Int) == (l1.length : Int)) = false := beq_eq_false_iff_ne.mpr c3
    have c3b1 : ((l0.length : Int) != (l1.length : Int)) = true := bne_iff_ne.mpr c3
    have c3b2 : (l0.length == l1.length) = false := by first | simpa using c3 | (simp at c3 ⊢; omega)
    obtain rfl := Option.some.inj H
    go_enter Try.func21, Try.ntmps21
    go_wp2
    repeat (go_quiet (fail); try go_wp2)
    go_ret
    exact ⟨by first | rfl | (simp; done) | (simp [*]; done), by repeat (first | exact Drawn0.refl _ | apply Drawn0.step)⟩

end Go.Proofs.Ytkkhhbegeboonaa.GAll
-- Written by a program of this session (wip/tools/printx.py) over the kit's printer and texts of its own; it is no print of print.sh.

namespace Go.Proofs.Ytkkhhbegeboonaa.GAll
open Go.RowKit Go.Proofs.YtkkhhbegeboonaaW.PrintWords Go.Proofs.YtkkhhbegeboonaaW.PrintLast Go.Proofs.YtkkhhbegeboonaaW.PrintMore
attribute [local go_sem] max2_int min2_int max_two min_two max_three min_three max_four min_four   -- for this text's walks alone
set_option linter.unusedVariables false
set_option linter.unusedSimpArgs false

/-! ### rot_least: function 48 -/
def rot_least.l0 : Nat → List Int → Int → List Int → Int → Int → Option (Int)
  | 0, _, _, _, _, _ => none
  | k + 1, x0, x3, x6, x7, x8 => if x8 < x7 then (if 0 ≤ x8 then (if x8 < (x6.length : Int) then (if 0 ≤ x3 then (if x3 < (x0.length : Int) then (if (rd x6 x8) < (rd x0 x3) then (rot_least.l0 k x0 x8 x6 x7 (wrap64 (x8 + 1))) else (rot_least.l0 k x0 x3 x6 x7 (wrap64 (x8 + 1)))) else (none)) else (none)) else (none)) else (none)) else (some x3)
def rot_least.f (k : Nat) (l0 : List Int) : Option (Int) := rot_least.l0 k l0 0 l0 (l0.length : Int) 0
theorem rot_least.mono_l : ∀ k, (∀ y0 y1 y2 y3 y4, LeO (rot_least.l0 k y0 y1 y2 y3 y4) (rot_least.l0 (k + 1) y0 y1 y2 y3 y4))
  | 0 => fun _ _ _ _ _ r h => by simp [rot_least.l0] at h
  | k + 1 => by
    have ih0 := rot_least.mono_l k
    · intro y0 y1 y2 y3 y4
      unfold rot_least.l0
      repeat' first
      | (with_reducible exact ih0 _ _ _ _ _)
      | (with_reducible exact LeO.refl _)
      | (with_reducible exact LeO.none _)
      | (with_reducible refine LeO.ite ?_ ?_)
      | (with_reducible refine LeO.bind ?_ (fun _ => ?_))
      | exact ih0 _ _ _ _ _
      | exact LeO.none _
      | refine LeO.ite ?_ ?_
      | refine LeO.bind ?_ (fun _ => ?_)
theorem rot_least.mono : ∀ a0 k, LeO (rot_least.f k a0) (rot_least.f (k + 1) a0) := by
  intro a0 k
  have ih0 := rot_least.mono_l k
  unfold rot_least.f
  repeat' first
      | (with_reducible exact ih0 _ _ _ _ _)
      | (with_reducible exact LeO.refl _)
      | (with_reducible exact LeO.none _)
      | (with_reducible refine LeO.ite ?_ ?_)
      | (with_reducible refine LeO.bind ?_ (fun _ => ?_))
      | exact ih0 _ _ _ _ _
      | exact LeO.none _
      | refine LeO.ite ?_ ?_
      | refine LeO.bind ?_ (fun _ => ?_)
set_option maxHeartbeats 8000000 in
set_option maxRecDepth 100000 in
theorem rot_least.calls (k : Nat) (A0 : Option Addr) (c0 : Nat) (l0 : List Int) (r : Int) (w : World) (hr0 : Kd.C (Kd.int .i64) w A0 l0.length l0) (hc0 : l0.length ≤ c0) (h : rot_least.f k l0 = some r) :
    Calls Try.prog 48 #[.slice A0 l0.length c0] w fun e w' => e = .returned (.int .i64 r) ∧ Drawn0 w w' := by
  have HR0 := Aside0.mk hr0
  have HC0 := Aside0.mk hc0
  clear hr0 hc0
  have H : (rot_least.l0 k l0 0 l0 (l0.length : Int) 0) = some r := h
  clear h
  have H' := Aside0.mk H
  clear H
  go_enter Try.func48, Try.ntmps48
  go_wp2
  go_loopg [3, 8] k (fun kq v3 v8 w' => ∃ (x3_1 : Int) (x8_1 : Int), v3 = .int .i64 x3_1 ∧ v8 = .int .i64 x8_1 ∧ Aside0 (rot_least.l0 kq l0 x3_1 l0 (l0.length : Int) x8_1 = some r) ∧ Aside0 (kq ≤ k) ∧ Drawn0 w w')
  case atStart => exact ⟨(0), (0), (by first | rfl | (simp; done) | (simp [*]; done)), (by first | rfl | (simp; done) | (simp [*]; done)), H', ⟨Nat.le_refl _⟩, by repeat (first | exact Drawn0.refl _ | apply Drawn0.step)⟩
  case round =>
    clear H'
    obtain ⟨x3_1, x8_1, rfl, rfl, HA, HK1, ⟨m1, rfl⟩⟩ := hrel
    cases gk with
    | zero => exact absurd HA.out (by simp [rot_least.l0])
    | succ k1 =>
      have H := HA.out
      clear HA
      simp only [rot_least.l0] at H
      by_cases c2 : x8_1 < (l0.length : Int)
      · rw [if_pos c2] at H
        have c2b0 : decide (x8_1 < (l0.length : Int)) = true := decide_eq_true c2
        clear c2
        by_cases c3 : 0 ≤ x8_1
        · rw [if_pos c3] at H
          have c3b0 : decide (0 ≤ x8_1) = true := decide_eq_true c3
          clear c3
          by_cases c4 : x8_1 < (l0.length : Int)
          · rw [if_pos c4] at H
            have c4b0 : decide (x8_1 < (l0.length : Int)) = true := decide_eq_true c4
            clear c4
            by_cases c5 : 0 ≤ x3_1
            · rw [if_pos c5] at H
              have c5b0 : decide (0 ≤ x3_1) = true := decide_eq_true c5
              clear c5
              by_cases c6 : x3_1 < (l0.length : Int)
              · rw [if_pos c6] at H
                have c6b0 : decide (x3_1 < (l0.length : Int)) = true := decide_eq_true c6
                clear c6
                by_cases c7 : (rd l0 x8_1) < (rd l0 x3_1)
                · rw [if_pos c7] at H
                  have c7b0 : decide ((rd l0 x8_1) < (rd l0 x3_1)) = true := decide_eq_true c7
                  clear c7
                  have H' := Aside0.mk H
                  clear H
                  have p134 : 0 ≤ (x8_1 : Int) := of_decide_eq_true (by first | (with_reducible assumption) | assumption)
                  have q134 : x8_1 < (l0.length : Int) := of_decide_eq_true (by first | (with_reducible assumption) | assumption)
                  obtain ⟨ad134, e134, hx134_0⟩ := Kd.at_int HR0.out x8_1 p134 q134
                  cases e134
                  replace p134 := eq_true p134
                  replace q134 := eq_true q134
                  have p135 : 0 ≤ (x3_1 : Int) := of_decide_eq_true (by first | (with_reducible assumption) | assumption)
                  have q135 : x3_1 < (l0.length : Int) := of_decide_eq_true (by first | (with_reducible assumption) | assumption)
                  obtain ⟨ad135, e135, hx135_0⟩ := Kd.at_int HR0.out x3_1 p135 q135
                  obtain rfl : ad134 = ad135 := (by injection e135)
                  replace p135 := eq_true p135
                  replace q135 := eq_true q135
                  go_wp2
                  go_roundg k1
                  case measure => have := HK1.out; omega
                  case rel => exact ⟨(x8_1), (wrap64 (x8_1 + 1)), (by first | rfl | (simp; done) | (simp [*]; done)), (by first | rfl | (simp; done) | (simp [*]; done)), H', ⟨by have := HK1.out; omega⟩, by repeat (first | exact Drawn0.refl _ | apply Drawn0.step)⟩
                · rw [if_neg c7] at H
                  have c7b0 : decide ((rd l0 x8_1) < (rd l0 x3_1)) = false := decide_eq_false c7
                  clear c7
                  have H' := Aside0.mk H
                  clear H
                  have p134 : 0 ≤ (x8_1 : Int) := of_decide_eq_true (by first | (with_reducible assumption) | assumption)
                  have q134 : x8_1 < (l0.length : Int) := of_decide_eq_true (by first | (with_reducible assumption) | assumption)
                  obtain ⟨ad134, e134, hx134_0⟩ := Kd.at_int HR0.out x8_1 p134 q134
                  cases e134
                  replace p134 := eq_true p134
                  replace q134 := eq_true q134
                  have p135 : 0 ≤ (x3_1 : Int) := of_decide_eq_true (by first | (with_reducible assumption) | assumption)
                  have q135 : x3_1 < (l0.length : Int) := of_decide_eq_true (by first | (with_reducible assumption) | assumption)
                  obtain ⟨ad135, e135, hx135_0⟩ := Kd.at_int HR0.out x3_1 p135 q135
                  obtain rfl : ad134 = ad135 := (by injection e135)
                  replace p135 := eq_true p135
                  replace q135 := eq_true q135
                  go_wp2
                  go_roundg k1
                  case measure => have := HK1.out; omega
                  case rel => exact ⟨(x3_1), (wrap64 (x8_1 + 1)), (by first | rfl | (simp; done) | (simp [*]; done)), (by first | rfl | (simp; done) | (simp [*]; done)), H', ⟨by have := HK1.out; omega⟩, by repeat (first | exact Drawn0.refl _ | apply Drawn0.step)⟩
              · rw [if_neg c6] at H
                exact absurd H (by simp)
            · rw [if_neg c5] at H
              exact absurd H (by simp)
          · rw [if_neg c4] at H
            exact absurd H (by simp)
        · rw [if_neg c3] at H
          exact absurd H (by simp)
      · rw [if_neg c2] at H
        have c2b0 : decide (x8_1 < (l0.length : Int)) = false := decide_eq_false c2
        clear c2
        obtain rfl := Option.some.inj H
        go_wp2
        go_ret
        exact ⟨by first | rfl | (simp; done) | (simp [*]; done), by repeat (first | exact Drawn0.refl _ | apply Drawn0.step)⟩

/-! ### rot.Canon: told by hand -/
/-- each list's least is found within k rounds, and no list is too long -/
def rot_Canon.fit (k : Nat) (l0 : List (List Int)) : Bool := decide (l0.length * 24 ≤ 140737488355328) && l0.all fun l => (rot_least.f k l == some ((Rot.leastAt l : Nat) : Int)) && decide (l.length * 8 ≤ 140737488355328)
def rot_Canon.f (k : Nat) (l0 : List (List Int)) : Option (List (List Int)) := if rot_Canon.fit k l0 = true then some (l0.map Rot.turnl) else none
theorem rot_Canon.fit_mono {k : Nat} {l0 : List (List Int)} (h : rot_Canon.fit k l0 = true) : rot_Canon.fit (k + 1) l0 = true := by
  unfold rot_Canon.fit at h ⊢
  rw [Bool.and_eq_true, List.all_eq_true] at h ⊢
  refine ⟨h.1, fun l hl => ?_⟩
  have := h.2 l hl
  rw [Bool.and_eq_true, beq_iff_eq] at this ⊢
  exact ⟨rot_least.mono l k _ this.1, this.2⟩
theorem rot_Canon.mono : ∀ a0 k, LeO (rot_Canon.f k a0) (rot_Canon.f (k + 1) a0) := by
  intro a0 k r h
  unfold rot_Canon.f at h ⊢
  by_cases hf : rot_Canon.fit k a0 = true
  · rw [if_pos hf] at h
    rw [if_pos (rot_Canon.fit_mono hf)]
    exact h
  · rw [if_neg hf] at h; cases h
theorem rot_Canon.says {k : Nat} {l0 : List (List Int)} (h : rot_Canon.fit k l0 = true) : Rot.LeastSays l0 := by
  intro j A c W hj hC hc
  unfold rot_Canon.fit at h
  rw [Bool.and_eq_true, List.all_eq_true] at h
  have hm : Mem.gl l0 j ∈ l0 := by
    unfold Mem.gl
    rw [List.getD_eq_getElem?_getD, List.getElem?_eq_getElem hj]
    exact List.getElem_mem hj
  have := h.2 _ hm
  rw [Bool.and_eq_true, beq_iff_eq] at this
  exact (rot_least.calls k A c _ _ W hC hc this.1).mono fun e w' ⟨h1, h2⟩ => ⟨h1, h2.below⟩
theorem rot_Canon.bound {k : Nat} {l0 : List (List Int)} (h : rot_Canon.fit k l0 = true) : l0.length * 24 ≤ 140737488355328 ∧ ∀ j, j < l0.length → (Mem.gl l0 j).length * 8 ≤ 140737488355328 := by
  unfold rot_Canon.fit at h
  rw [Bool.and_eq_true, List.all_eq_true, decide_eq_true_eq] at h
  refine ⟨h.1, fun j hj => ?_⟩
  have hm : Mem.gl l0 j ∈ l0 := by
    unfold Mem.gl
    rw [List.getD_eq_getElem?_getD, List.getElem?_eq_getElem hj]
    exact List.getElem_mem hj
  have := h.2 _ hm
  rw [Bool.and_eq_true, decide_eq_true_eq] at this
  exact this.2
theorem rot_Canon.calls (k : Nat) (A0 : Option Addr) (c0 : Nat) (l0 : List (List Int)) (r : List (List Int)) (w : World) (hr0 : Kd.C (Kd.slice 3 (Kd.int .i64)) w A0 l0.length l0) (hc0 : l0.length ≤ c0) (h : rot_Canon.f k l0 = some r) :
    Calls Try.prog 25 #[.slice A0 l0.length c0] w fun e w' => ∃ v0_ : Value, e = .returned (v0_) ∧ Kd.S (Kd.slice 3 (Kd.int .i64)) 28 w' w.heap.size (fun _ => True) v0_ r ∧ Below w.heap.size w w' := by
  unfold rot_Canon.f at h
  by_cases hf : rot_Canon.fit k l0 = true
  · rw [if_pos hf] at h
    obtain rfl : l0.map Rot.turnl = r := by simpa using h
    obtain ⟨h1, h2⟩ := rot_Canon.bound hf
    exact Rot.canon_calls A0 c0 l0 w hr0 h1 h2 (rot_Canon.says hf)
  · rw [if_neg hf] at h; cases h

/-! ### tangramlaw11_tail: function 32 -/
def tangramlaw11_tail.f  : Option (Int × (List (S59))) := some (4, (([(⟨0, 1⟩ : S59), (⟨0, 2⟩ : S59), (⟨1, 2⟩ : S59), (⟨2, 3⟩ : S59)] : List (S59))))
set_option maxHeartbeats 8000000 in
set_option maxRecDepth 100000 in
theorem tangramlaw11_tail.calls  (r1 : Int) (r2 : List (S59)) (w : World) (h : tangramlaw11_tail.f  = some (r1, r2)) :
    Calls Try.prog 32 #[] w fun e w' => ∃ v1_ : Value, e = .returned (.agg #[.int .i64 r1, v1_]) ∧ Kd.R k59 59 w' w.heap.size (fun _ => True) v1_ r2 ∧ Below w.heap.size w w' := by
  have hu24 := Try.underlying24
  have hu59 := Try.underlying59
  have HB := Aside0.mk (Below.refl w.heap.size w)
  have H : (some (4, (([(⟨0, 1⟩ : S59), (⟨0, 2⟩ : S59), (⟨1, 2⟩ : S59), (⟨2, 3⟩ : S59)] : List (S59))))) = some (r1, r2) := h
  clear h
  obtain ⟨y137, hy137⟩ : ∃ y_ : List (S59), y_ = (([(⟨0, 1⟩ : S59), (⟨0, 2⟩ : S59), (⟨1, 2⟩ : S59), (⟨2, 3⟩ : S59)] : List (S59))) := ⟨_, rfl⟩
  replace H : (some (4, y137)) = some (r1, r2) := by first | (rw [hy137]; with_reducible exact H) | (have H2_ := (Option.bind_some _ _).symm.trans H; rw [hy137]; with_reducible exact H2_) | (have H2_ := (Option.bind_some _ _).symm.trans H; with_reducible exact H2_) | with_reducible exact H | (rw [hy137]; exact H) | exact H
  have Ny137 := Aside0.mk hy137
  clear hy137
  simp only [Option.some.injEq, Prod.mk.injEq] at H
  obtain ⟨rfl, rfl⟩ := H
  go_enter Try.func32, Try.ntmps32
  go_wp2_with (first | ((with_reducible refine gate_dst (N := 0) rfl ?_); refine box_event ?hg (N := 0) ?hd (cs := #[.int .i64 0, .slice none 0 0]) (t := 24) ?hr ?_; (case hd => rfl); (case hg => rfl); (case hr => first | (go_simp; done) | (go_simp; rfl)); intro gb136 hg w1 hbox hb; have n0_ := Aside0.mk (below_step (by repeat (first | (with_reducible first | exact HB.out | apply below_alloc | apply pw_below_drewN | apply below_drew1) | exact HB.out)) hb); have n1_ := Aside0.mk (hbox); have n2_ := Aside0.mk ((by rw [hg]; exact (below_size (by repeat (first | (with_reducible first | exact HB.out | apply below_alloc | apply pw_below_drewN | apply below_drew1) | exact HB.out))) : w.heap.size ≤ gb136)); have n3_ := Aside0.mk ((by rw [hg]; exact (below_size (by repeat (first | (with_reducible first | exact HB.out | apply below_alloc | apply pw_below_drewN | apply below_drew1) | exact HB.out))) : w.heap.size ≤ gb136)); clear HB; have HB := n0_; have BK136 := n1_; have GW136 := n2_; have GE136 := n3_; clear n0_ n1_ n2_ n3_; clear hb hbox hg) | ((with_reducible refine gate_dst (N := 5) rfl ?_); refine Kd.R_lit k59 _ 59 ?hg (N := 5) ?hd (xs := ([(⟨0, 1⟩ : S59), (⟨0, 2⟩ : S59), (⟨1, 2⟩ : S59), (⟨2, 3⟩ : S59)] : List (S59))) (inner := [.int .i64 0, .int .i64 1, .int .i64 0, .int .i64 2, .int .i64 1, .int .i64 2, .int .i64 2, .int .i64 3]) (ok := fun _ => True) (okp := fun _ => True) ?hr ?hp (fun _ hk => hk) trivial (Below.refl _ _) (Nat.le_refl _) (by simp) ?_; (case hd => rfl); (case hg => rfl); (case hr => first | (go_simp; done) | (go_simp; rfl)); (case hp => exact (Reps.c2 (show Kd.M k59 _ _ _ (⟨0, 1⟩ : S59) [.int .i64 0, .int .i64 1] from (k59_mkM _ _ _ (⟨0, 1⟩ : S59) )) (Reps.c2 (show Kd.M k59 _ _ _ (⟨0, 2⟩ : S59) [.int .i64 0, .int .i64 2] from (k59_mkM _ _ _ (⟨0, 2⟩ : S59) )) (Reps.c2 (show Kd.M k59 _ _ _ (⟨1, 2⟩ : S59) [.int .i64 1, .int .i64 2] from (k59_mkM _ _ _ (⟨1, 2⟩ : S59) )) (Reps.c2 (show Kd.M k59 _ _ _ (⟨2, 3⟩ : S59) [.int .i64 2, .int .i64 3] from (k59_mkM _ _ _ (⟨2, 3⟩ : S59) )) (Reps.none _ _)))))); intro v138 w2 ho3 hb hg_ hnew_; clear hg_ hnew_; (first | rw [← Ny137.out] at ho3 | (simp only [Int.reduceToNat] at ho3; rw [← Ny137.out] at ho3)); have n0_ := Aside0.mk (Kd.R_lower ho3 (below_size (by repeat (first | (with_reducible first | exact HB.out | apply below_alloc | apply pw_below_drewN | apply below_drew1 | refine below_set ?_ GE136.out) | exact HB.out)))); have n1_ := Aside0.mk (blk_below (g := gb136) (o := .cells #[.int .i64 0, .slice none 0 0] 24 (0, 0)) (by (with_reducible repeat (first | refine blk_drewN ?_ _ | refine blk_drew ?_ | refine blk_alloc ?_ _)); exact BK136.out) hb); have n2_ := Aside0.mk (below_step (by repeat (first | (with_reducible first | exact HB.out | apply below_alloc | apply pw_below_drewN | apply below_drew1 | refine below_set ?_ GE136.out) | exact HB.out)) hb); clear BK136; clear HB; have HO139 := n0_; have BK136 := n1_; have HB := n2_; clear n0_ n1_ n2_; clear hb ho3; obtain ⟨Ao4, co4, eo4⟩ := Kd.R_slice HO139.out; subst eo4; have hcz5_0 : w2.cell? ⟨gb136, 0, none⟩ = some (.int .i64 0) := (blk_cell BK136.out 0).trans rfl; have hcz5_1 : w2.cell? ⟨gb136, 1, none⟩ = some (.slice none 0 0) := (blk_cell BK136.out 1).trans rfl; have hfz5_0 := blk_frozen BK136.out 0; have hfz5_1 := blk_frozen BK136.out 1))
  refine bodyPost_ret (results_cell_row rfl _ _ gb136 24 #[.int .i64 4, .slice Ao4 y137.length co4] (0, 0) _ rfl (by (with_reducible repeat (first | refine blk_drewN ?_ _ | refine blk_drew ?_ | refine blk_alloc ?_ _)); refine blk_put (cs := #[.int .i64 4, .slice none 0 0]) ?_ 1 _ rfl; (with_reducible repeat (first | refine blk_drewN ?_ _ | refine blk_drew ?_ | refine blk_alloc ?_ _)); refine blk_put (cs := #[.int .i64 0, .slice none 0 0]) ?_ 0 _ rfl; (with_reducible repeat (first | refine blk_drewN ?_ _ | refine blk_drew ?_ | refine blk_alloc ?_ _)); exact BK136.out) Try.underlying24 rfl (by kernel_rfl)) rfl ?_
  exact ⟨_, by first | rfl | (simp [errW_none, errW_some] <;> rfl) | (simp [*, errW_none, errW_some] <;> rfl), by (with_reducible repeat (first | apply Kd.R_alloc | apply Kd.R_drewN | apply Kd.R_drew)); exact Kd.R_mono (Kd.R_far (p := ⟨gb136, 1, none⟩) (Kd.R_far (p := ⟨gb136, 0, none⟩) (Kd.R_types HO139.out BK136.out (by decide)) (fun _ hk => hk.2) (.int .i64 4)) (fun _ hk => hk.2) (.slice Ao4 y137.length co4)) (fun _ hk => trivial), by repeat (first | (with_reducible first | exact HB.out | apply below_alloc | apply pw_below_drewN | apply below_drew1 | refine below_set ?_ GE136.out) | exact HB.out)⟩

end Go.Proofs.Ytkkhhbegeboonaa.GAll
-- Written by a program of this session (wip/tools/printx.py) over the kit's printer and texts of its own; it is no print of print.sh.






namespace Go.Proofs.Ytkkhhbegeboonaa.GAll
open Go.RowKit Go.Proofs.YtkkhhbegeboonaaW.PrintWords Go.Proofs.YtkkhhbegeboonaaW.PrintLast Go.Proofs.YtkkhhbegeboonaaW.PrintMore
attribute [local go_sem] max2_int min2_int max_two min_two max_three min_three max_four min_four   -- for this text's walks alone
set_option linter.unusedVariables false
set_option linter.unusedSimpArgs false

/-! ### the law's fixed example: told by hand -/
theorem tangramlaw11_fixed.tail : ∀ W : World, Calls Try.prog 32 #[] W fun e w' => ∃ v, e = .returned (.agg #[.int .i64 4, v]) ∧ Kd.R k59 59 w' W.heap.size (fun _ => True) v [(⟨0, 1⟩ : S59), ⟨0, 2⟩, ⟨1, 2⟩, ⟨2, 3⟩] ∧ Below W.heap.size W w' := fun W => tangramlaw11_tail.calls 4 _ W rfl
/-- the lists of the example -/
def tangramlaw11_fixed.r : List (List Int) := [[2, 0], [1, 4], [5, 6, 3], [7]]
def tangramlaw11_fixed.q : List (List Int) := [[0, 2], [1, 4], [3, 5], [7]]
def tangramlaw11_fixed.es : List S59 := [⟨0, 1⟩, ⟨0, 2⟩, ⟨1, 2⟩, ⟨2, 3⟩]
set_option maxRecDepth 100000 in
theorem tangramlaw11_fixed.c1 : rot_Check.f 20 4 tangramlaw11_fixed.es tangramlaw11_fixed.r = some (0, 0) := by kernel_rfl
theorem tangramlaw11_fixed.c2 : rot_Check.f 20 4 tangramlaw11_fixed.es tangramlaw11_fixed.q = some (2, 113) := by kernel_rfl
theorem tangramlaw11_fixed.c3 : rot_Next.f 20 4 tangramlaw11_fixed.es tangramlaw11_fixed.r = some ([2, 4, 0, 5, 1, 6, 3, 7], 0) := by kernel_rfl
theorem tangramlaw11_fixed.c4 : tangramref11_Alike.f 20 [2, 4, 0, 5, 1, 6, 3, 7] [2, 4, 0, 5, 1, 6, 3, 7] = some true := by kernel_rfl
theorem tangramlaw11_fixed.c5 : rot_Canon.f 20 tangramlaw11_fixed.r = some [[0, 2], [1, 4], [3, 5, 6], [7]] := by kernel_rfl
theorem tangramlaw11_fixed.c6 : tangramref11_Equal.f 20 [[0, 2], [1, 4], [3, 5, 6], [7]] [[0, 2], [1, 4], [3, 5, 6], [7]] = some true := by kernel_rfl
def tangramlaw11_fixed.f : Option Bool := some true
set_option maxHeartbeats 2000000 in
set_option maxRecDepth 100000 in
theorem tangramlaw11_fixed.calls (r : Bool) (w : World) (h : tangramlaw11_fixed.f = some r) :
    Calls Try.prog 11 #[] w fun e w' => e = .returned (.bool r) ∧ Below w.heap.size w w' := by
  obtain rfl : true = r := by simpa [tangramlaw11_fixed.f] using h
  clear h
  have HR0 : Aside0 (Kd.C Mem.KR ((Mem.lits w tangramlaw11_fixed.r).alloc (.cells (Mem.outer w.heap.size tangramlaw11_fixed.r).toArray 28 (0, 0))) (some ⟨w.heap.size + 1 + 1 + 1 + 1, 0, none⟩) tangramlaw11_fixed.r.length tangramlaw11_fixed.r) := ⟨Mem.lits_reads w tangramlaw11_fixed.r (by decide) (by decide)⟩
  have HB0 := Aside0.mk (Mem.lits_all w tangramlaw11_fixed.r)
  go_enter Try.func11, Try.ntmps11
  go_wp2_with fail
  show Calls _ _ _ ((Mem.lits w tangramlaw11_fixed.r).alloc (.cells (Mem.outer w.heap.size tangramlaw11_fixed.r).toArray 28 (0, 0))) _
  generalize (Mem.lits w tangramlaw11_fixed.r).alloc (.cells (Mem.outer w.heap.size tangramlaw11_fixed.r).toArray 28 (0, 0)) = w1 at HR0 HB0 ⊢
  obtain ⟨b0, hb0⟩ : ∃ b0, b0 = w.heap.size + 1 + 1 + 1 + 1 := ⟨_, rfl⟩
  rw [← hb0] at HR0 ⊢
  clear hb0
  refine (tangramlaw11_fixed.tail w1).mono ?_
  rintro e w2 ⟨v, rfl, hR, hb⟩
  have HB2 := Aside0.mk (HB0.out.trans (hb.mono HB0.out.size))
  have HR2 := Aside0.mk (Kd.C_below HR0.out hb)
  obtain ⟨A2, c2, rfl, hc2, hC2⟩ := Kd.R_reads hR
  have HC2 := Aside0.mk hC2
  have HL2 := Aside0.mk hc2
  clear hb hR hC2 hc2 HB0 HR0
  go_wp2_with fail
  refine (rot_Check.calls 20 4 A2 c2 tangramlaw11_fixed.es (some ⟨b0, 0, none⟩) 4 tangramlaw11_fixed.r 0 0 w2 HC2.out HL2.out HR2.out (by decide) tangramlaw11_fixed.c1).mono ?_
  rintro e w3 ⟨rfl, hb⟩
  have HB3 := Aside0.mk (HB2.out.trans (hb.mono HB2.out.size))
  have HR3 := Aside0.mk (Kd.C_below HR2.out hb)
  clear hb HB2 HR2 HC2 HL2
  go_wp2_with fail
  refine (tangramlaw11_fixed.tail w3).mono ?_
  rintro e w4 ⟨v, rfl, hR, hb⟩
  have HB4 := Aside0.mk (HB3.out.trans (hb.mono HB3.out.size))
  have HR4 := Aside0.mk (Kd.C_below HR3.out hb)
  obtain ⟨A4, c4, rfl, hc4, hC4⟩ := Kd.R_reads hR
  have HQ4 : Aside0 (Kd.C Mem.KR ((Mem.lits w4 tangramlaw11_fixed.q).alloc (.cells (Mem.outer w4.heap.size tangramlaw11_fixed.q).toArray 28 (0, 0))) (some ⟨w4.heap.size + 1 + 1 + 1 + 1, 0, none⟩) tangramlaw11_fixed.q.length tangramlaw11_fixed.q) := ⟨Mem.lits_reads w4 tangramlaw11_fixed.q (by decide) (by decide)⟩
  have hb4 := Mem.lits_all w4 tangramlaw11_fixed.q
  have HB5 := Aside0.mk (HB4.out.trans (hb4.mono HB4.out.size))
  have HR5 := Aside0.mk (Kd.C_below HR4.out hb4)
  have HC5 := Aside0.mk (Kd.C_below hC4 hb4)
  have HL5 := Aside0.mk hc4
  clear hb hR hC4 hc4 HB3 HR3 hb4 HB4 HR4
  go_wp2_with fail
  show Calls _ _ _ ((Mem.lits w4 tangramlaw11_fixed.q).alloc (.cells (Mem.outer w4.heap.size tangramlaw11_fixed.q).toArray 28 (0, 0))) _
  generalize (Mem.lits w4 tangramlaw11_fixed.q).alloc (.cells (Mem.outer w4.heap.size tangramlaw11_fixed.q).toArray 28 (0, 0)) = w5 at HQ4 HB5 HR5 HC5 ⊢
  obtain ⟨b1, hb1⟩ : ∃ b1, b1 = w4.heap.size + 1 + 1 + 1 + 1 := ⟨_, rfl⟩
  rw [← hb1] at HQ4 ⊢
  clear hb1
  refine (rot_Check.calls 20 4 A4 c4 tangramlaw11_fixed.es (some ⟨b1, 0, none⟩) 4 tangramlaw11_fixed.q 2 113 w5 HC5.out HL5.out HQ4.out (by decide) tangramlaw11_fixed.c2).mono ?_
  rintro e w6 ⟨rfl, hb⟩
  have HB6 := Aside0.mk (HB5.out.trans (hb.mono HB5.out.size))
  have HR6 := Aside0.mk (Kd.C_below HR5.out hb)
  clear hb HB5 HR5 HC5 HL5 HQ4
  go_wp2_with fail
  refine (tangramlaw11_fixed.tail w6).mono ?_
  rintro e w7 ⟨v, rfl, hR, hb⟩
  have HB7 := Aside0.mk (HB6.out.trans (hb.mono HB6.out.size))
  have HR7 := Aside0.mk (Kd.C_below HR6.out hb)
  obtain ⟨A7, c7, rfl, hc7, hC7⟩ := Kd.R_reads hR
  have HC7 := Aside0.mk hC7
  have HL7 := Aside0.mk hc7
  clear hb hR hC7 hc7 HB6 HR6
  go_wp2_with fail
  refine (rot_Next.calls 20 4 A7 c7 tangramlaw11_fixed.es (some ⟨b0, 0, none⟩) 4 tangramlaw11_fixed.r _ 0 w7 HC7.out HL7.out HR7.out (by decide) tangramlaw11_fixed.c3).mono ?_
  rintro e w8 ⟨v, rfl, hR, hb⟩
  have HB8 := Aside0.mk (HB7.out.trans (hb.mono HB7.out.size))
  have HR8 := Aside0.mk (Kd.C_below HR7.out hb)
  obtain ⟨A8, c8, rfl, hc8, hC8⟩ := Kd.R_reads hR
  have HIX : Aside0 (Mem.IRow (w8.alloc (.cells #[.int .i64 2, .int .i64 4, .int .i64 0, .int .i64 5, .int .i64 1, .int .i64 6, .int .i64 3, .int .i64 7] 3 (0, 0))) w8.heap.size [2, 4, 0, 5, 1, 6, 3, 7]) := ⟨Mem.heap_last w8 _⟩
  have hb9 := (Below.refl w8.heap.size w8).alloc (Nat.le_refl _) (.cells #[.int .i64 2, .int .i64 4, .int .i64 0, .int .i64 5, .int .i64 1, .int .i64 6, .int .i64 3, .int .i64 7] 3 (0, 0))
  have HB9 := Aside0.mk (HB8.out.trans (hb9.mono HB8.out.size))
  have HR9 := Aside0.mk (Kd.C_below HR8.out hb9)
  have HC9 := Aside0.mk (Kd.C_below hC8 hb9)
  have HL9 := Aside0.mk hc8
  clear hb hR hC8 hc8 HB7 HR7 HC7 HL7 hb9 HB8 HR8
  go_wp2_with fail
  generalize w8.alloc (.cells #[.int .i64 2, .int .i64 4, .int .i64 0, .int .i64 5, .int .i64 1, .int .i64 6, .int .i64 3, .int .i64 7] 3 (0, 0)) = w9 at HIX HB9 HR9 HC9 ⊢
  refine (tangramref11_Alike.calls 20 A8 c8 [2, 4, 0, 5, 1, 6, 3, 7] (some ⟨w8.heap.size, 0, none⟩) 8 [2, 4, 0, 5, 1, 6, 3, 7] true w9 HC9.out HL9.out (Mem.row_reads HIX.out (by decide)) (by decide) tangramlaw11_fixed.c4).mono ?_
  rintro e w10 ⟨rfl, hd⟩
  have hb10 := hd.below
  have HB10 := Aside0.mk (HB9.out.trans (hb10.mono HB9.out.size))
  have HR10 := Aside0.mk (Kd.C_below HR9.out hb10)
  clear hd hb10 HB9 HR9 HC9 HL9 HIX
  go_wp2_with fail
  refine (rot_Canon.calls 20 (some ⟨b0, 0, none⟩) 4 tangramlaw11_fixed.r _ w10 HR10.out (by decide) tangramlaw11_fixed.c5).mono ?_
  rintro e w11 ⟨v, rfl, hS, hb⟩
  have HB11 := Aside0.mk (HB10.out.trans (hb.mono HB10.out.size))
  obtain ⟨A11, c11, rfl, hc11, hC11⟩ := Kd.S_reads hS
  have HQ12 : Aside0 (Kd.C Mem.KR ((Mem.lits w11 [[0, 2], [1, 4], [3, 5, 6], [7]]).alloc (.cells (Mem.outer w11.heap.size [[0, 2], [1, 4], [3, 5, 6], [7]]).toArray 28 (0, 0))) (some ⟨w11.heap.size + 1 + 1 + 1 + 1, 0, none⟩) 4 [[0, 2], [1, 4], [3, 5, 6], [7]]) := ⟨Mem.lits_reads w11 [[0, 2], [1, 4], [3, 5, 6], [7]] (by decide) (by decide)⟩
  have hb12 := Mem.lits_all w11 [[0, 2], [1, 4], [3, 5, 6], [7]]
  have HB12 := Aside0.mk (HB11.out.trans (hb12.mono HB11.out.size))
  have HC12 := Aside0.mk (Kd.C_below hC11 hb12)
  have HL12 := Aside0.mk hc11
  clear hb hS hC11 hc11 HB10 HR10 hb12 HB11
  go_wp2_with fail
  show Calls _ _ _ ((Mem.lits w11 [[0, 2], [1, 4], [3, 5, 6], [7]]).alloc (.cells (Mem.outer w11.heap.size [[0, 2], [1, 4], [3, 5, 6], [7]]).toArray 28 (0, 0))) _
  generalize (Mem.lits w11 [[0, 2], [1, 4], [3, 5, 6], [7]]).alloc (.cells (Mem.outer w11.heap.size [[0, 2], [1, 4], [3, 5, 6], [7]]).toArray 28 (0, 0)) = w12 at HQ12 HB12 HC12 ⊢
  refine (tangramref11_Equal.calls 20 A11 c11 [[0, 2], [1, 4], [3, 5, 6], [7]] (some ⟨w11.heap.size + 1 + 1 + 1 + 1, 0, none⟩) 4 [[0, 2], [1, 4], [3, 5, 6], [7]] true w12 HC12.out HL12.out HQ12.out (by decide) tangramlaw11_fixed.c6).mono ?_
  rintro e w13 ⟨rfl, hd⟩
  have HB13 := Aside0.mk (HB12.out.trans (hd.below.mono HB12.out.size))
  clear hd HB12 HC12 HL12 HQ12
  go_wp2_with fail
  go_ret
  exact ⟨rfl, HB13.out⟩

/-! ### tangramref03_Less: function 33 -/
def tangramref03_Less.f (a0_0 : Int) (a0_1 : Int) (a1_0 : Int) (a1_1 : Int) : Option (Bool) := if a0_0 < a1_0 then (some true) else (if a0_0 = a1_0 then (some (decide (a0_1 < a1_1))) else (some false))
set_option maxHeartbeats 8000000 in
set_option maxRecDepth 100000 in
theorem tangramref03_Less.calls (a0_0 : Int) (a0_1 : Int) (a1_0 : Int) (a1_1 : Int) (r : Bool) (w : World) (h : tangramref03_Less.f a0_0 a0_1 a1_0 a1_1 = some r) :
    Calls Try.prog 33 #[.agg #[.int .i64 a0_0, .int .i64 a0_1], .agg #[.int .i64 a1_0, .int .i64 a1_1]] w fun e w' => e = .returned (.bool r) ∧ Below w.heap.size w w' := by
  have hu59 := Try.underlying59
  have HB := Aside0.mk (Below.refl w.heap.size w)
  have H : (if a0_0 < a1_0 then (some true) else (if a0_0 = a1_0 then (some (decide (a0_1 < a1_1))) else (some false))) = some r := h
  clear h
  by_cases c3 : a0_0 < a1_0
  · rw [if_pos c3] at H
    have c3b0 : decide (a0_0 < a1_0) = true := decide_eq_true c3
    clear c3
    obtain rfl := Option.some.inj H
    go_enter Try.func33, Try.ntmps33
    go_wp2_with (first | ((with_reducible refine gate_dst (N := 2) rfl ?_); refine box_event ?hg (N := 2) ?hd (cs := #[.int .i64 a0_0, .int .i64 a0_1]) (t := 59) ?hr ?_; (case hd => rfl); (case hg => rfl); (case hr => first | (go_simp; done) | (go_simp; rfl)); intro gb140 hg w4 hbox hb; have n0_ := Aside0.mk (below_step (by repeat (first | (with_reducible first | exact HB.out | apply below_alloc | apply pw_below_drewN | apply below_drew1) | exact HB.out)) hb); have n1_ := Aside0.mk (hbox); have n2_ := Aside0.mk ((by rw [hg]; exact (below_size (by repeat (first | (with_reducible first | exact HB.out | apply below_alloc | apply pw_below_drewN | apply below_drew1) | exact HB.out))) : w.heap.size ≤ gb140)); have n3_ := Aside0.mk ((by rw [hg]; exact (below_size (by repeat (first | (with_reducible first | exact HB.out | apply below_alloc | apply pw_below_drewN | apply below_drew1) | exact HB.out))) : w.heap.size ≤ gb140)); clear HB; have HB := n0_; have BK140 := n1_; have GW140 := n2_; have GE140 := n3_; clear n0_ n1_ n2_ n3_; clear hb hbox hg) | ((with_reducible refine gate_dst (N := 3) rfl ?_); refine box_event ?hg (N := 3) ?hd (cs := #[.int .i64 a1_0, .int .i64 a1_1]) (t := 59) ?hr ?_; (case hd => rfl); (case hg => rfl); (case hr => first | (go_simp; done) | (go_simp; rfl)); intro gb141 hg w5 hbox hb; have n0_ := Aside0.mk (blk_below (g := gb140) (o := .cells #[.int .i64 a0_0, .int .i64 a0_1] 59 (0, 0)) (by (with_reducible repeat (first | refine blk_drewN ?_ _ | refine blk_drew ?_ | refine blk_alloc ?_ _)); exact BK140.out) hb); have n1_ := Aside0.mk (below_step (by repeat (first | (with_reducible first | exact HB.out | apply below_alloc | apply pw_below_drewN | apply below_drew1 | refine below_set ?_ GE140.out) | exact HB.out)) hb); have n2_ := Aside0.mk (hbox); have n3_ := Aside0.mk ((by rw [hg]; exact (below_size (by repeat (first | (with_reducible first | exact HB.out | apply below_alloc | apply pw_below_drewN | apply below_drew1 | refine below_set ?_ GE140.out) | exact HB.out))) : w.heap.size ≤ gb141)); have n4_ := Aside0.mk ((by rw [hg]; exact (below_size (by repeat (first | (with_reducible first | exact HB.out | apply below_alloc | apply pw_below_drewN | apply below_drew1 | refine below_set ?_ GE140.out) | exact HB.out))) : w.heap.size ≤ gb141)); have n5_ := Aside0.mk ((by rw [hg]; exact Nat.ne_of_lt (blk_lt (g := gb140) (o := .cells #[.int .i64 a0_0, .int .i64 a0_1] 59 (0, 0)) (by (with_reducible repeat (first | refine blk_drewN ?_ _ | refine blk_drew ?_ | refine blk_alloc ?_ _)); exact BK140.out)) : gb140 ≠ gb141)); have n6_ := Aside0.mk ((by rw [hg]; exact Nat.ne_of_gt (blk_lt (g := gb140) (o := .cells #[.int .i64 a0_0, .int .i64 a0_1] 59 (0, 0)) (by (with_reducible repeat (first | refine blk_drewN ?_ _ | refine blk_drew ?_ | refine blk_alloc ?_ _)); exact BK140.out)) : gb141 ≠ gb140)); clear BK140; clear HB; have BK140 := n0_; have HB := n1_; have BK141 := n2_; have GW141 := n3_; have GE141 := n4_; have NB140_141 := n5_; have NB141_140 := n6_; clear n0_ n1_ n2_ n3_ n4_ n5_ n6_; clear hb hbox hg; have hnb6 := NB140_141.out; have hnc6 := NB141_140.out; have hcz7_0 : w5.cell? ⟨gb140, 0, none⟩ = some (.int .i64 a0_0) := (blk_cell BK140.out 0).trans rfl; have hcz7_1 : w5.cell? ⟨gb140, 1, none⟩ = some (.int .i64 a0_1) := (blk_cell BK140.out 1).trans rfl; have hfz7_0 := blk_frozen BK140.out 0; have hfz7_1 := blk_frozen BK140.out 1; have hcz8_0 : w5.cell? ⟨gb141, 0, none⟩ = some (.int .i64 a1_0) := (blk_cell BK141.out 0).trans rfl; have hcz8_1 : w5.cell? ⟨gb141, 1, none⟩ = some (.int .i64 a1_1) := (blk_cell BK141.out 1).trans rfl; have hfz8_0 := blk_frozen BK141.out 0; have hfz8_1 := blk_frozen BK141.out 1))
    go_ret
    exact ⟨by first | rfl | (simp [errW_none, errW_some] <;> rfl) | (simp [*, errW_none, errW_some] <;> rfl), by repeat (first | (with_reducible first | exact HB.out | apply below_alloc | apply pw_below_drewN | apply below_drew1 | refine below_set ?_ GE140.out | refine below_set ?_ GE141.out) | exact HB.out)⟩
  · rw [if_neg c3] at H
    have c3b0 : decide (a0_0 < a1_0) = false := decide_eq_false c3
    clear c3
    by_cases c9 : a0_0 = a1_0
    · rw [if_pos c9] at H
      have c9b0 : (a0_0 == a1_0) = true := beq_iff_eq.mpr c9
      have c9b1 : (a0_0 != a1_0) = false := bne_eq_false_iff_eq.mpr c9
      clear c9
      obtain rfl := Option.some.inj H
      go_enter Try.func33, Try.ntmps33
      go_wp2_with (first | ((with_reducible refine gate_dst (N := 2) rfl ?_); refine box_event ?hg (N := 2) ?hd (cs := #[.int .i64 a0_0, .int .i64 a0_1]) (t := 59) ?hr ?_; (case hd => rfl); (case hg => rfl); (case hr => first | (go_simp; done) | (go_simp; rfl)); intro gb140 hg w10 hbox hb; have n0_ := Aside0.mk (below_step (by repeat (first | (with_reducible first | exact HB.out | apply below_alloc | apply pw_below_drewN | apply below_drew1) | exact HB.out)) hb); have n1_ := Aside0.mk (hbox); have n2_ := Aside0.mk ((by rw [hg]; exact (below_size (by repeat (first | (with_reducible first | exact HB.out | apply below_alloc | apply pw_below_drewN | apply below_drew1) | exact HB.out))) : w.heap.size ≤ gb140)); have n3_ := Aside0.mk ((by rw [hg]; exact (below_size (by repeat (first | (with_reducible first | exact HB.out | apply below_alloc | apply pw_below_drewN | apply below_drew1) | exact HB.out))) : w.heap.size ≤ gb140)); clear HB; have HB := n0_; have BK140 := n1_; have GW140 := n2_; have GE140 := n3_; clear n0_ n1_ n2_ n3_; clear hb hbox hg) | ((with_reducible refine gate_dst (N := 3) rfl ?_); refine box_event ?hg (N := 3) ?hd (cs := #[.int .i64 a1_0, .int .i64 a1_1]) (t := 59) ?hr ?_; (case hd => rfl); (case hg => rfl); (case hr => first | (go_simp; done) | (go_simp; rfl)); intro gb141 hg w11 hbox hb; have n0_ := Aside0.mk (blk_below (g := gb140) (o := .cells #[.int .i64 a0_0, .int .i64 a0_1] 59 (0, 0)) (by (with_reducible repeat (first | refine blk_drewN ?_ _ | refine blk_drew ?_ | refine blk_alloc ?_ _)); exact BK140.out) hb); have n1_ := Aside0.mk (below_step (by repeat (first | (with_reducible first | exact HB.out | apply below_alloc | apply pw_below_drewN | apply below_drew1 | refine below_set ?_ GE140.out) | exact HB.out)) hb); have n2_ := Aside0.mk (hbox); have n3_ := Aside0.mk ((by rw [hg]; exact (below_size (by repeat (first | (with_reducible first | exact HB.out | apply below_alloc | apply pw_below_drewN | apply below_drew1 | refine below_set ?_ GE140.out) | exact HB.out))) : w.heap.size ≤ gb141)); have n4_ := Aside0.mk ((by rw [hg]; exact (below_size (by repeat (first | (with_reducible first | exact HB.out | apply below_alloc | apply pw_below_drewN | apply below_drew1 | refine below_set ?_ GE140.out) | exact HB.out))) : w.heap.size ≤ gb141)); have n5_ := Aside0.mk ((by rw [hg]; exact Nat.ne_of_lt (blk_lt (g := gb140) (o := .cells #[.int .i64 a0_0, .int .i64 a0_1] 59 (0, 0)) (by (with_reducible repeat (first | refine blk_drewN ?_ _ | refine blk_drew ?_ | refine blk_alloc ?_ _)); exact BK140.out)) : gb140 ≠ gb141)); have n6_ := Aside0.mk ((by rw [hg]; exact Nat.ne_of_gt (blk_lt (g := gb140) (o := .cells #[.int .i64 a0_0, .int .i64 a0_1] 59 (0, 0)) (by (with_reducible repeat (first | refine blk_drewN ?_ _ | refine blk_drew ?_ | refine blk_alloc ?_ _)); exact BK140.out)) : gb141 ≠ gb140)); clear BK140; clear HB; have BK140 := n0_; have HB := n1_; have BK141 := n2_; have GW141 := n3_; have GE141 := n4_; have NB140_141 := n5_; have NB141_140 := n6_; clear n0_ n1_ n2_ n3_ n4_ n5_ n6_; clear hb hbox hg; have hnb12 := NB140_141.out; have hnc12 := NB141_140.out; have hcz13_0 : w11.cell? ⟨gb140, 0, none⟩ = some (.int .i64 a0_0) := (blk_cell BK140.out 0).trans rfl; have hcz13_1 : w11.cell? ⟨gb140, 1, none⟩ = some (.int .i64 a0_1) := (blk_cell BK140.out 1).trans rfl; have hfz13_0 := blk_frozen BK140.out 0; have hfz13_1 := blk_frozen BK140.out 1; have hcz14_0 : w11.cell? ⟨gb141, 0, none⟩ = some (.int .i64 a1_0) := (blk_cell BK141.out 0).trans rfl; have hcz14_1 : w11.cell? ⟨gb141, 1, none⟩ = some (.int .i64 a1_1) := (blk_cell BK141.out 1).trans rfl; have hfz14_0 := blk_frozen BK141.out 0; have hfz14_1 := blk_frozen BK141.out 1))
      go_ret
      exact ⟨by first | rfl | (simp [errW_none, errW_some] <;> rfl) | (simp [*, errW_none, errW_some] <;> rfl), by repeat (first | (with_reducible first | exact HB.out | apply below_alloc | apply pw_below_drewN | apply below_drew1 | refine below_set ?_ GE140.out | refine below_set ?_ GE141.out) | exact HB.out)⟩
    · rw [if_neg c9] at H
      have c9b0 : (a0_0 == a1_0) = false := beq_eq_false_iff_ne.mpr c9
      have c9b1 : (a0_0 != a1_0) = true := bne_iff_ne.mpr c9
      obtain rfl := Option.some.inj H
      go_enter Try.func33, Try.ntmps33
      go_wp2_with (first | ((with_reducible refine gate_dst (N := 2) rfl ?_); refine box_event ?hg (N := 2) ?hd (cs := #[.int .i64 a0_0, .int .i64 a0_1]) (t := 59) ?hr ?_; (case hd => rfl); (case hg => rfl); (case hr => first | (go_simp; done) | (go_simp; rfl)); intro gb140 hg w15 hbox hb; have n0_ := Aside0.mk (below_step (by repeat (first | (with_reducible first | exact HB.out | apply below_alloc | apply pw_below_drewN | apply below_drew1) | exact HB.out)) hb); have n1_ := Aside0.mk (hbox); have n2_ := Aside0.mk ((by rw [hg]; exact (below_size (by repeat (first | (with_reducible first | exact HB.out | apply below_alloc | apply pw_below_drewN | apply below_drew1) | exact HB.out))) : w.heap.size ≤ gb140)); have n3_ := Aside0.mk ((by rw [hg]; exact (below_size (by repeat (first | (with_reducible first | exact HB.out | apply below_alloc | apply pw_below_drewN | apply below_drew1) | exact HB.out))) : w.heap.size ≤ gb140)); clear HB; have HB := n0_; have BK140 := n1_; have GW140 := n2_; have GE140 := n3_; clear n0_ n1_ n2_ n3_; clear hb hbox hg) | ((with_reducible refine gate_dst (N := 3) rfl ?_); refine box_event ?hg (N := 3) ?hd (cs := #[.int .i64 a1_0, .int .i64 a1_1]) (t := 59) ?hr ?_; (case hd => rfl); (case hg => rfl); (case hr => first | (go_simp; done) | (go_simp; rfl)); intro gb141 hg w16 hbox hb; have n0_ := Aside0.mk (blk_below (g := gb140) (o := .cells #[.int .i64 a0_0, .int .i64 a0_1] 59 (0, 0)) (by (with_reducible repeat (first | refine blk_drewN ?_ _ | refine blk_drew ?_ | refine blk_alloc ?_ _)); exact BK140.out) hb); have n1_ := Aside0.mk (below_step (by repeat (first | (with_reducible first | exact HB.out | apply below_alloc | apply pw_below_drewN | apply below_drew1 | refine below_set ?_ GE140.out) | exact HB.out)) hb); have n2_ := Aside0.mk (hbox); have n3_ := Aside0.mk ((by rw [hg]; exact (below_size (by repeat (first | (with_reducible first | exact HB.out | apply below_alloc | apply pw_below_drewN | apply below_drew1 | refine below_set ?_ GE140.out) | exact HB.out))) : w.heap.size ≤ gb141)); have n4_ := Aside0.mk ((by rw [hg]; exact (below_size (by repeat (first | (with_reducible first | exact HB.out | apply below_alloc | apply pw_below_drewN | apply below_drew1 | refine below_set ?_ GE140.out) | exact HB.out))) : w.heap.size ≤ gb141)); have n5_ := Aside0.mk ((by rw [hg]; exact Nat.ne_of_lt (blk_lt (g := gb140) (o := .cells #[.int .i64 a0_0, .int .i64 a0_1] 59 (0, 0)) (by (with_reducible repeat (first | refine blk_drewN ?_ _ | refine blk_drew ?_ | refine blk_alloc ?_ _)); exact BK140.out)) : gb140 ≠ gb141)); have n6_ := Aside0.mk ((by rw [hg]; exact Nat.ne_of_gt (blk_lt (g := gb140) (o := .cells #[.int .i64 a0_0, .int .i64 a0_1] 59 (0, 0)) (by (with_reducible repeat (first | refine blk_drewN ?_ _ | refine blk_drew ?_ | refine blk_alloc ?_ _)); exact BK140.out)) : gb141 ≠ gb140)); clear BK140; clear HB; have BK140 := n0_; have HB := n1_; have BK141 := n2_; have GW141 := n3_; have GE141 := n4_; have NB140_141 := n5_; have NB141_140 := n6_; clear n0_ n1_ n2_ n3_ n4_ n5_ n6_; clear hb hbox hg; have hnb17 := NB140_141.out; have hnc17 := NB141_140.out; have hcz18_0 : w16.cell? ⟨gb140, 0, none⟩ = some (.int .i64 a0_0) := (blk_cell BK140.out 0).trans rfl; have hcz18_1 : w16.cell? ⟨gb140, 1, none⟩ = some (.int .i64 a0_1) := (blk_cell BK140.out 1).trans rfl; have hfz18_0 := blk_frozen BK140.out 0; have hfz18_1 := blk_frozen BK140.out 1; have hcz19_0 : w16.cell? ⟨gb141, 0, none⟩ = some (.int .i64 a1_0) := (blk_cell BK141.out 0).trans rfl; have hcz19_1 : w16.cell? ⟨gb141, 1, none⟩ = some (.int .i64 a1_1) := (blk_cell BK141.out 1).trans rfl; have hfz19_0 := blk_frozen BK141.out 0; have hfz19_1 := blk_frozen BK141.out 1))
      go_ret
      exact ⟨by first | rfl | (simp [errW_none, errW_some] <;> rfl) | (simp [*, errW_none, errW_some] <;> rfl), by repeat (first | (with_reducible first | exact HB.out | apply below_alloc | apply pw_below_drewN | apply below_drew1 | refine below_set ?_ GE140.out | refine below_set ?_ GE141.out) | exact HB.out)⟩

end Go.Proofs.Ytkkhhbegeboonaa.GAll
-- Written by a program of this session (wip/tools/printx.py) over the kit's printer and texts of its own; it is no print of print.sh.


namespace Go.Proofs.Ytkkhhbegeboonaa.GAll
open Go.RowKit Go.Proofs.YtkkhhbegeboonaaW.PrintWords Go.Proofs.YtkkhhbegeboonaaW.PrintLast Go.Proofs.YtkkhhbegeboonaaW.PrintMore
attribute [local go_sem] max2_int min2_int max_two min_two max_three min_three max_four min_four   -- for this text's walks alone
set_option linter.unusedVariables false
set_option linter.unusedSimpArgs false

/-! ### tangramref03_Valid: function 13 -/
mutual
def tangramref03_Valid.j0 : Nat → Bool → Int → List (S59) → Option (Bool)
  | 0, _, _, _ => none
  | k + 1, x19, x143000, x143001 => if x19 = true then (some false) else (tangramref03_Valid.l0 k 0 x143000 x143001)
def tangramref03_Valid.l0 : Nat → Int → Int → List (S59) → Option (Bool)
  | 0, _, _, _ => none
  | k + 1, x3, x143000, x143001 => if x3 < (x143001.length : Int) then (if 0 ≤ x3 then (if ((rd_T59 x143001 x3).f0) < 0 then (tangramref03_Valid.j2 k x3 true x143000 x143001 ((rd_T59 x143001 x3).f0) ((rd_T59 x143001 x3).f1)) else (if ((rd_T59 x143001 x3).f0) ≥ ((rd_T59 x143001 x3).f1) then (tangramref03_Valid.j2 k x3 true x143000 x143001 ((rd_T59 x143001 x3).f0) ((rd_T59 x143001 x3).f1)) else (tangramref03_Valid.j2 k x3 (decide (((rd_T59 x143001 x3).f1) ≥ x143000)) x143000 x143001 ((rd_T59 x143001 x3).f0) ((rd_T59 x143001 x3).f1)))) else (none)) else (some true)
def tangramref03_Valid.j2 : Nat → Int → Bool → Int → List (S59) → Int → Int → Option (Bool)
  | 0, _, _, _, _, _, _ => none
  | k + 1, x3, x48, x143000, x143001, x145000, x145001 => if x48 = true then (some false) else (if x3 > 0 then (if 0 ≤ (wrap64 (x3 - 1)) then (if (wrap64 (x3 - 1)) < (x143001.length : Int) then ((tangramref03_Less.f ((rd_T59 x143001 (wrap64 (x3 - 1))).f0) ((rd_T59 x143001 (wrap64 (x3 - 1))).f1) x145000 x145001).bind fun t146 => (if t146 = true then (tangramref03_Valid.l0 k (wrap64 (x3 + 1)) x143000 x143001) else (some false))) else (none)) else (none)) else (tangramref03_Valid.l0 k (wrap64 (x3 + 1)) x143000 x143001))
end
def tangramref03_Valid.f (k : Nat) (a0_0 : Int) (l0_1 : List (S59)) : Option (Bool) := if a0_0 < 0 then (tangramref03_Valid.j0 k true a0_0 l0_1) else (if a0_0 > 1048576 then (tangramref03_Valid.j0 k true a0_0 l0_1) else (tangramref03_Valid.j0 k (decide ((l0_1.length : Int) > 4194304)) a0_0 l0_1))
theorem tangramref03_Valid.mono_l : ∀ k, (∀ y0 y1 y2, LeO (tangramref03_Valid.j0 k y0 y1 y2) (tangramref03_Valid.j0 (k + 1) y0 y1 y2)) ∧ (∀ y0 y1 y2, LeO (tangramref03_Valid.l0 k y0 y1 y2) (tangramref03_Valid.l0 (k + 1) y0 y1 y2)) ∧ (∀ y0 y1 y2 y3 y4 y5, LeO (tangramref03_Valid.j2 k y0 y1 y2 y3 y4 y5) (tangramref03_Valid.j2 (k + 1) y0 y1 y2 y3 y4 y5))
  | 0 => ⟨fun _ _ _ r h => by simp [tangramref03_Valid.j0] at h, fun _ _ _ r h => by simp [tangramref03_Valid.l0] at h, fun _ _ _ _ _ _ r h => by simp [tangramref03_Valid.j2] at h⟩
  | k + 1 => by
    obtain ⟨ih0, ih1, ih2⟩ := tangramref03_Valid.mono_l k
    refine ⟨?_, ?_, ?_⟩
    · intro y0 y1 y2
      unfold tangramref03_Valid.j0
      repeat' first
      | (with_reducible exact ih0 _ _ _)
      | (with_reducible exact ih1 _ _ _)
      | (with_reducible exact ih2 _ _ _ _ _ _)
      | (with_reducible exact LeO.refl _)
      | (with_reducible exact LeO.none _)
      | (with_reducible refine LeO.ite ?_ ?_)
      | (with_reducible refine LeO.bind ?_ (fun _ => ?_))
      | exact ih0 _ _ _
      | exact ih1 _ _ _
      | exact ih2 _ _ _ _ _ _
      | exact LeO.none _
      | refine LeO.ite ?_ ?_
      | refine LeO.bind ?_ (fun _ => ?_)
    · intro y0 y1 y2
      unfold tangramref03_Valid.l0
      repeat' first
      | (with_reducible exact ih0 _ _ _)
      | (with_reducible exact ih1 _ _ _)
      | (with_reducible exact ih2 _ _ _ _ _ _)
      | (with_reducible exact LeO.refl _)
      | (with_reducible exact LeO.none _)
      | (with_reducible refine LeO.ite ?_ ?_)
      | (with_reducible refine LeO.bind ?_ (fun _ => ?_))
      | exact ih0 _ _ _
      | exact ih1 _ _ _
      | exact ih2 _ _ _ _ _ _
      | exact LeO.none _
      | refine LeO.ite ?_ ?_
      | refine LeO.bind ?_ (fun _ => ?_)
    · intro y0 y1 y2 y3 y4 y5
      unfold tangramref03_Valid.j2
      repeat' first
      | (with_reducible exact ih0 _ _ _)
      | (with_reducible exact ih1 _ _ _)
      | (with_reducible exact ih2 _ _ _ _ _ _)
      | (with_reducible exact LeO.refl _)
      | (with_reducible exact LeO.none _)
      | (with_reducible refine LeO.ite ?_ ?_)
      | (with_reducible refine LeO.bind ?_ (fun _ => ?_))
      | exact ih0 _ _ _
      | exact ih1 _ _ _
      | exact ih2 _ _ _ _ _ _
      | exact LeO.none _
      | refine LeO.ite ?_ ?_
      | refine LeO.bind ?_ (fun _ => ?_)
theorem tangramref03_Valid.mono : ∀ a0 a1 k, LeO (tangramref03_Valid.f k a0 a1) (tangramref03_Valid.f (k + 1) a0 a1) := by
  intro a0 a1 k
  obtain ⟨ih0, ih1, ih2⟩ := tangramref03_Valid.mono_l k
  unfold tangramref03_Valid.f
  repeat' first
      | (with_reducible exact ih0 _ _ _)
      | (with_reducible exact ih1 _ _ _)
      | (with_reducible exact ih2 _ _ _ _ _ _)
      | (with_reducible exact LeO.refl _)
      | (with_reducible exact LeO.none _)
      | (with_reducible refine LeO.ite ?_ ?_)
      | (with_reducible refine LeO.bind ?_ (fun _ => ?_))
      | exact ih0 _ _ _
      | exact ih1 _ _ _
      | exact ih2 _ _ _ _ _ _
      | exact LeO.none _
      | refine LeO.ite ?_ ?_
      | refine LeO.bind ?_ (fun _ => ?_)
def tangramref03_Valid.T10 : Bool × List (List Nat × List Nat) := (true, [([], []), ([0], [0]), ([], []), ([2], [2]), ([1, 3], [1, 3]), ([4], [4]), ([], []), ([5, 6], [5, 6]), ([7, 7, 0, 1, 2, 3, 4, 5, 6, 7], [7])])
def tangramref03_Valid.B10 : List Nat := [0, 1, 0, 4, 15, 31, 0, 127, 255]
theorem tangramref03_Valid.tab10 : rtab .any (opsOf Try.f13 10) = tangramref03_Valid.T10 := by kernel_rfl
theorem tangramref03_Valid.bits10 : waitsOk tangramref03_Valid.T10.2 tangramref03_Valid.B10 = true := by kernel_rfl
set_option maxHeartbeats 8000000 in
set_option maxRecDepth 100000 in
theorem tangramref03_Valid.calls (k : Nat) (a0_0 : Int) (A0_1 : Option Addr) (c0_1 : Nat) (l0_1 : List (S59)) (r : Bool) (w : World) (hr0_1 : Kd.C k59 w A0_1 l0_1.length l0_1) (hc0_1 : l0_1.length ≤ c0_1) (h : tangramref03_Valid.f k a0_0 l0_1 = some r) :
    Calls Try.prog 13 #[.agg #[.int .i64 a0_0, .slice A0_1 l0_1.length c0_1]] w fun e w' => e = .returned (.bool r) ∧ Below w.heap.size w w' := by
  have hu24 := Try.underlying24
  have hu59 := Try.underlying59
  have HR0_1 := Aside0.mk hr0_1
  have HC0_1 := Aside0.mk hc0_1
  clear hr0_1 hc0_1
  have HB := Aside0.mk (Below.refl w.heap.size w)
  have H : (if a0_0 < 0 then (tangramref03_Valid.j0 k true a0_0 l0_1) else (if a0_0 > 1048576 then (tangramref03_Valid.j0 k true a0_0 l0_1) else (tangramref03_Valid.j0 k (decide ((l0_1.length : Int) > 4194304)) a0_0 l0_1))) = some r := h
  clear h
  have HC2 := Aside0.mk H
  clear H
  go_enter Try.func13, Try.ntmps13
  go_upto_region 1 with (first | ((with_reducible refine gate_dst (N := 1) rfl ?_); (try (refine gate_guard (by rfl) ?_; dsimp only)); refine box_event ?hg (N := 1) ?hd (cs := #[.int .i64 a0_0, .slice A0_1 l0_1.length c0_1]) (t := 24) ?hr ?_; (case hd => rfl); (case hg => rfl); (case hr => first | (go_simp; done) | (go_simp; rfl)); intro gb142 hg w3 hbox hb; have n0_ := Aside0.mk (below_step (by repeat (first | (with_reducible first | exact HB.out | apply below_alloc | apply pw_below_drewN | apply below_drew1) | exact HB.out)) hb); have n1_ := Aside0.mk (hbox); have n2_ := Aside0.mk ((by rw [hg]; exact (below_size (by repeat (first | (with_reducible first | exact HB.out | apply below_alloc | apply pw_below_drewN | apply below_drew1) | exact HB.out))) : w.heap.size ≤ gb142)); have n3_ := Aside0.mk ((by rw [hg]; exact (below_size (by repeat (first | (with_reducible first | exact HB.out | apply below_alloc | apply pw_below_drewN | apply below_drew1) | exact HB.out))) : w.heap.size ≤ gb142)); clear HB; have HB := n0_; have BK142 := n1_; have GW142 := n2_; have GE142 := n3_; clear n0_ n1_ n2_ n3_; clear hb hbox hg))
  (try simp only [Act.put, List.setIfInBounds_toArray, List.set_cons_zero, List.set_cons_succ])
  go_cut [19] (fun v19 wc => ∃ (kq : Nat) (x19_1 : Bool), v19 = .bool x19_1 ∧ Aside0 (tangramref03_Valid.j0 kq x19_1 a0_0 l0_1 = some r) ∧ Aside0 (kq ≤ k) ∧ Aside0 (wc.heap[gb142]? = some (.cells #[.int .i64 a0_0, (.slice A0_1 l0_1.length c0_1)] 24 (0, 0))) ∧ Aside0 (Below w.heap.size w wc))
  case first =>
    have H := HC2.out
    clear HC2
    by_cases c4 : a0_0 < 0
    · rw [if_pos c4] at H
      have c4b0 : decide (a0_0 < 0) = true := decide_eq_true c4
      clear c4
      (first | rw [c4b0] | (simp only [i64_w, i32_w]; rw [c4b0]) | skip)
      have H' := Aside0.mk H
      clear H
      have hcz5_0 : w3.cell? ⟨gb142, 0, none⟩ = some (.int .i64 a0_0) := (blk_cell BK142.out 0).trans rfl
      have hcz5_1 : w3.cell? ⟨gb142, 1, none⟩ = some (.slice A0_1 l0_1.length c0_1) := (blk_cell BK142.out 1).trans rfl
      have hfz5_0 := blk_frozen BK142.out 0
      have hfz5_1 := blk_frozen BK142.out 1
      go_wp2
      go_meet
      case rel => exact ⟨_, (true), (by first | rfl | (simp; done) | (simp [*]; done)), H', ⟨by first | omega | exact Nat.le_refl _⟩, ⟨by (with_reducible repeat (first | refine blk_drewN ?_ _ | refine blk_drew ?_ | refine blk_alloc ?_ _)); exact BK142.out⟩, ⟨by repeat (first | (with_reducible first | exact HB.out | apply below_alloc | apply pw_below_drewN | apply below_drew1 | refine below_set ?_ GE142.out) | exact HB.out)⟩⟩
    · rw [if_neg c4] at H
      have c4b0 : decide (a0_0 < 0) = false := decide_eq_false c4
      clear c4
      (first | rw [c4b0] | (simp only [i64_w, i32_w]; rw [c4b0]) | skip)
      by_cases c6 : a0_0 > 1048576
      · rw [if_pos c6] at H
        have c6b0 : decide (1048576 < a0_0) = true := decide_eq_true c6
        clear c6
        have H' := Aside0.mk H
        clear H
        have hcz7_0 : w3.cell? ⟨gb142, 0, none⟩ = some (.int .i64 a0_0) := (blk_cell BK142.out 0).trans rfl
        have hcz7_1 : w3.cell? ⟨gb142, 1, none⟩ = some (.slice A0_1 l0_1.length c0_1) := (blk_cell BK142.out 1).trans rfl
        have hfz7_0 := blk_frozen BK142.out 0
        have hfz7_1 := blk_frozen BK142.out 1
        go_wp2
        go_meet
        case rel => exact ⟨_, (true), (by first | rfl | (simp; done) | (simp [*]; done)), H', ⟨by first | omega | exact Nat.le_refl _⟩, ⟨by (with_reducible repeat (first | refine blk_drewN ?_ _ | refine blk_drew ?_ | refine blk_alloc ?_ _)); exact BK142.out⟩, ⟨by repeat (first | (with_reducible first | exact HB.out | apply below_alloc | apply pw_below_drewN | apply below_drew1 | refine below_set ?_ GE142.out) | exact HB.out)⟩⟩
      · rw [if_neg c6] at H
        have c6b0 : decide (1048576 < a0_0) = false := decide_eq_false c6
        clear c6
        have H' := Aside0.mk H
        clear H
        have hcz8_0 : w3.cell? ⟨gb142, 0, none⟩ = some (.int .i64 a0_0) := (blk_cell BK142.out 0).trans rfl
        have hcz8_1 : w3.cell? ⟨gb142, 1, none⟩ = some (.slice A0_1 l0_1.length c0_1) := (blk_cell BK142.out 1).trans rfl
        have hfz8_0 := blk_frozen BK142.out 0
        have hfz8_1 := blk_frozen BK142.out 1
        go_wp2
        go_meet
        case rel => exact ⟨_, (decide ((l0_1.length : Int) > 4194304)), (by first | rfl | (simp; done) | (simp [*]; done)), H', ⟨by first | omega | exact Nat.le_refl _⟩, ⟨by (with_reducible repeat (first | refine blk_drewN ?_ _ | refine blk_drew ?_ | refine blk_alloc ?_ _)); exact BK142.out⟩, ⟨by repeat (first | (with_reducible first | exact HB.out | apply below_alloc | apply pw_below_drewN | apply below_drew1 | refine below_set ?_ GE142.out) | exact HB.out)⟩⟩
  case rest =>
    clear HC2
    try clear c1
    try clear p2
    try clear c4
    try clear c4b0
    try clear c6
    try clear c6b0
    try clear hcz5_0
    try clear hcz5_1
    try clear hcz7_0
    try clear hcz7_1
    try clear hcz8_0
    try clear hcz8_1
    try clear hfz5_0
    try clear hfz5_1
    try clear hfz7_0
    try clear hfz7_1
    try clear hfz8_0
    try clear hfz8_1
    obtain ⟨kq, x19_1, rfl, HA, HJ1, BK142, HB⟩ := hcut
    cases kq with
    | zero => exact absurd HA.out (by simp [tangramref03_Valid.j0])
    | succ kj1 =>
      have H := HA.out
      clear HA
      simp only [tangramref03_Valid.j0] at H
      by_cases c9 : x19_1 = true
      · subst c9
        have H1 : (some false) = some r := by rw [if_pos rfl] at H; exact H
        clear H
        have H := H1
        clear H1
        obtain rfl := Option.some.inj H
        go_wp2
        go_ret
        exact ⟨by first | rfl | (simp [errW_none, errW_some] <;> rfl) | (simp [*, errW_none, errW_some] <;> rfl), by repeat (first | (with_reducible first | exact HB.out | apply below_alloc | apply pw_below_drewN | apply below_drew1 | refine below_set ?_ GE142.out) | exact HB.out)⟩
      · replace c9 := Bool.eq_false_iff.mpr c9
        subst c9
        have H1 : (tangramref03_Valid.l0 kj1 0 a0_0 l0_1) = some r := by rw [if_neg (show ¬ (false = true) by decide)] at H; exact H
        clear H
        have H := H1
        clear H1
        have H' := Aside0.mk H
        clear H
        go_wp2
        go_loopg [3] kj1 (fun kq v3 w' => ∃ (x3_2 : Int), v3 = .int .i64 x3_2 ∧ Aside0 (tangramref03_Valid.l0 kq x3_2 a0_0 l0_1 = some r) ∧ Aside0 (kq ≤ kj1) ∧ Aside0 (w'.heap[gb142]? = some (.cells #[.int .i64 a0_0, (.slice A0_1 l0_1.length c0_1)] 24 (0, 0))) ∧ Aside0 (Below w.heap.size w w'))
        case atStart => exact ⟨(0), (by first | rfl | (simp; done) | (simp [*]; done)), H', ⟨Nat.le_refl _⟩, ⟨by (with_reducible repeat (first | refine blk_drewN ?_ _ | refine blk_drew ?_ | refine blk_alloc ?_ _)); exact BK142.out⟩, ⟨by repeat (first | (with_reducible first | exact HB.out | apply below_alloc | apply pw_below_drewN | apply below_drew1 | refine below_set ?_ GE142.out) | exact HB.out)⟩⟩
        case round =>
          clear H'
          try clear c1
          try clear p2
          try clear c4
          try clear c4b0
          try clear c6
          try clear c6b0
          try clear c9
          try clear hcz5_0
          try clear hcz5_1
          try clear hcz7_0
          try clear hcz7_1
          try clear hcz8_0
          try clear hcz8_1
          try clear hfz5_0
          try clear hfz5_1
          try clear hfz7_0
          try clear hfz7_1
          try clear hfz8_0
          try clear hfz8_1
          try clear p2
          obtain ⟨x3_2, rfl, HA, HK2, BK142, HB⟩ := hrel
          cases gk with
          | zero => exact absurd HA.out (by simp [tangramref03_Valid.l0])
          | succ k2 =>
            have H := HA.out
            clear HA
            simp only [tangramref03_Valid.l0] at H
            by_cases c10 : x3_2 < (l0_1.length : Int)
            · rw [if_pos c10] at H
              have c10b0 : decide (x3_2 < (l0_1.length : Int)) = true := decide_eq_true c10
              clear c10
              by_cases c11 : 0 ≤ x3_2
              · rw [if_pos c11] at H
                have c11b0 : decide (0 ≤ x3_2) = true := decide_eq_true c11
                clear c11
                have HC12 := Aside0.mk H
                clear H
                have hcz13_0 : wr.cell? ⟨gb142, 0, none⟩ = some (.int .i64 a0_0) := (blk_cell BK142.out 0).trans rfl
                have hcz13_1 : wr.cell? ⟨gb142, 1, none⟩ = some (.slice A0_1 l0_1.length c0_1) := (blk_cell BK142.out 1).trans rfl
                have hfz13_0 := blk_frozen BK142.out 0
                have hfz13_1 := blk_frozen BK142.out 1
                have p143 : 0 ≤ (x3_2 : Int) := of_decide_eq_true (by first | (with_reducible assumption) | assumption)
                have q143 : x3_2 < (l0_1.length : Int) := of_decide_eq_true (by first | (with_reducible assumption) | assumption)
                obtain ⟨ad143, e143, hx143_0, hx143_1⟩ := at_T59 HR0_1.out x3_2 p143 q143
                cases e143
                replace hx143_0 := (HB.out.cell (World.block_lt_of_cell? w _ hx143_0)).trans hx143_0
                replace hx143_1 := (HB.out.cell (World.block_lt_of_cell? w _ hx143_1)).trans hx143_1
                replace p143 := eq_true p143
                replace q143 := eq_true q143
                go_upto_region 7 with (first | ((with_reducible refine gate_dst (N := 4) rfl ?_); (try (refine gate_guard (by rfl) ?_; dsimp only)); refine box_event ?hg (N := 4) ?hd (cs := #[.int .i64 0, .int .i64 0]) (t := 59) ?hr ?_; (case hd => rfl); (case hg => rfl); (case hr => first | (go_simp; done) | (go_simp; rfl)); intro gb144 hg w14 hbox hb; have n0_ := Aside0.mk (blk_below (g := gb142) (o := .cells #[.int .i64 a0_0, .slice (some ad143) l0_1.length c0_1] 24 (0, 0)) (by (with_reducible repeat (first | refine blk_drewN ?_ _ | refine blk_drew ?_ | refine blk_alloc ?_ _)); exact BK142.out) hb); have n1_ := Aside0.mk (below_step (by repeat (first | (with_reducible first | exact HB.out | apply below_alloc | apply pw_below_drewN | apply below_drew1 | refine below_set ?_ GE142.out) | exact HB.out)) hb); have n2_ := Aside0.mk (hbox); have n3_ := Aside0.mk ((by rw [hg]; exact (below_size (by repeat (first | (with_reducible first | exact HB.out | apply below_alloc | apply pw_below_drewN | apply below_drew1 | refine below_set ?_ GE142.out) | exact HB.out))) : w.heap.size ≤ gb144)); have n4_ := Aside0.mk ((by rw [hg]; exact (below_size (by repeat (first | (with_reducible first | exact HB.out | apply below_alloc | apply pw_below_drewN | apply below_drew1 | refine below_set ?_ GE142.out) | exact HB.out))) : w.heap.size ≤ gb144)); have n5_ := Aside0.mk ((by rw [hg]; exact Nat.ne_of_lt (blk_lt (g := gb142) (o := .cells #[.int .i64 a0_0, .slice (some ad143) l0_1.length c0_1] 24 (0, 0)) (by (with_reducible repeat (first | refine blk_drewN ?_ _ | refine blk_drew ?_ | refine blk_alloc ?_ _)); exact BK142.out)) : gb142 ≠ gb144)); have n6_ := Aside0.mk ((by rw [hg]; exact Nat.ne_of_gt (blk_lt (g := gb142) (o := .cells #[.int .i64 a0_0, .slice (some ad143) l0_1.length c0_1] 24 (0, 0)) (by (with_reducible repeat (first | refine blk_drewN ?_ _ | refine blk_drew ?_ | refine blk_alloc ?_ _)); exact BK142.out)) : gb144 ≠ gb142)); clear BK142; clear HB; have BK142 := n0_; have HB := n1_; have BK144 := n2_; have GW144 := n3_; have GE144 := n4_; have NB142_144 := n5_; have NB144_142 := n6_; clear n0_ n1_ n2_ n3_ n4_ n5_ n6_; clear hb hbox hg; have hnb15 := NB144_142.out; have hnc15 := NB142_144.out; have hcz16_0 : w14.cell? ⟨gb144, 0, none⟩ = some (.int .i64 0) := (blk_cell BK144.out 0).trans rfl; have hcz16_1 : w14.cell? ⟨gb144, 1, none⟩ = some (.int .i64 0) := (blk_cell BK144.out 1).trans rfl; have hfz16_0 := blk_frozen BK144.out 0; have hfz16_1 := blk_frozen BK144.out 1))
                (try simp only [Act.put, List.setIfInBounds_toArray, List.set_cons_zero, List.set_cons_succ])
                go_cut [48] (fun v48 wc => ∃ (kq : Nat) (x48_11 : Bool), v48 = .bool x48_11 ∧ Aside0 (tangramref03_Valid.j2 kq x3_2 x48_11 a0_0 l0_1 ((rd_T59 l0_1 x3_2).f0) ((rd_T59 l0_1 x3_2).f1) = some r) ∧ Aside0 (kq ≤ k2) ∧ Aside0 (wc.heap[gb142]? = some (.cells #[.int .i64 a0_0, (.slice (some ad143) l0_1.length c0_1)] 24 (0, 0))) ∧ Aside0 (wc.heap[gb144]? = some (.cells #[.int .i64 ((rd_T59 l0_1 x3_2).f0), .int .i64 ((rd_T59 l0_1 x3_2).f1)] 59 (0, 0))) ∧ Aside0 (Below w.heap.size w wc))
                case first =>
                  have H := HC12.out
                  clear HC12
                  by_cases c17 : ((rd_T59 l0_1 x3_2).f0) < 0
                  · rw [if_pos c17] at H
                    have c17b0 : decide (((rd_T59 l0_1 x3_2).f0) < 0) = true := decide_eq_true c17
                    clear c17
                    (first | rw [c17b0] | (simp only [i64_w, i32_w]; rw [c17b0]) | skip)
                    have H' := Aside0.mk H
                    clear H
                    have hnb18 := NB144_142.out
                    have hnc18 := NB142_144.out
                    have hcz19_0 : w14.cell? ⟨gb144, 0, none⟩ = some (.int .i64 0) := (blk_cell BK144.out 0).trans rfl
                    have hcz19_1 : w14.cell? ⟨gb144, 1, none⟩ = some (.int .i64 0) := (blk_cell BK144.out 1).trans rfl
                    have hfz19_0 := blk_frozen BK144.out 0
                    have hfz19_1 := blk_frozen BK144.out 1
                    go_wp2
                    go_meet
                    case rel => exact ⟨_, (true), (by first | rfl | (simp; done) | (simp [*]; done)), H', ⟨by have := HJ1.out; have := HK2.out; first | omega | exact Nat.le_refl _⟩, ⟨by (with_reducible repeat (first | refine blk_drewN ?_ _ | refine blk_drew ?_ | refine blk_alloc ?_ _)); refine blk_far ?_ NB142_144.out _; (with_reducible repeat (first | refine blk_drewN ?_ _ | refine blk_drew ?_ | refine blk_alloc ?_ _)); refine blk_far ?_ NB142_144.out _; (with_reducible repeat (first | refine blk_drewN ?_ _ | refine blk_drew ?_ | refine blk_alloc ?_ _)); exact BK142.out⟩, ⟨by (with_reducible repeat (first | refine blk_drewN ?_ _ | refine blk_drew ?_ | refine blk_alloc ?_ _)); refine blk_put (cs := #[.int .i64 ((rd_T59 l0_1 x3_2).f0), .int .i64 0]) ?_ 1 _ rfl; (with_reducible repeat (first | refine blk_drewN ?_ _ | refine blk_drew ?_ | refine blk_alloc ?_ _)); refine blk_put (cs := #[.int .i64 0, .int .i64 0]) ?_ 0 _ rfl; (with_reducible repeat (first | refine blk_drewN ?_ _ | refine blk_drew ?_ | refine blk_alloc ?_ _)); exact BK144.out⟩, ⟨by repeat (first | (with_reducible first | exact HB.out | apply below_alloc | apply pw_below_drewN | apply below_drew1 | refine below_set ?_ GE142.out | refine below_set ?_ GE144.out) | exact HB.out)⟩⟩
                  · rw [if_neg c17] at H
                    have c17b0 : decide (((rd_T59 l0_1 x3_2).f0) < 0) = false := decide_eq_false c17
                    clear c17
                    (first | rw [c17b0] | (simp only [i64_w, i32_w]; rw [c17b0]) | skip)
                    by_cases c20 : ((rd_T59 l0_1 x3_2).f0) ≥ ((rd_T59 l0_1 x3_2).f1)
                    · rw [if_pos c20] at H
                      have c20b0 : decide (((rd_T59 l0_1 x3_2).f1) ≤ ((rd_T59 l0_1 x3_2).f0)) = true := decide_eq_true c20
                      clear c20
                      have H' := Aside0.mk H
                      clear H
                      have hnb21 := NB144_142.out
                      have hnc21 := NB142_144.out
                      have hcz22_0 : w14.cell? ⟨gb144, 0, none⟩ = some (.int .i64 0) := (blk_cell BK144.out 0).trans rfl
                      have hcz22_1 : w14.cell? ⟨gb144, 1, none⟩ = some (.int .i64 0) := (blk_cell BK144.out 1).trans rfl
                      have hfz22_0 := blk_frozen BK144.out 0
                      have hfz22_1 := blk_frozen BK144.out 1
                      go_wp2
                      go_meet
                      case rel => exact ⟨_, (true), (by first | rfl | (simp; done) | (simp [*]; done)), H', ⟨by have := HJ1.out; have := HK2.out; first | omega | exact Nat.le_refl _⟩, ⟨by (with_reducible repeat (first | refine blk_drewN ?_ _ | refine blk_drew ?_ | refine blk_alloc ?_ _)); refine blk_far ?_ NB142_144.out _; (with_reducible repeat (first | refine blk_drewN ?_ _ | refine blk_drew ?_ | refine blk_alloc ?_ _)); refine blk_far ?_ NB142_144.out _; (with_reducible repeat (first | refine blk_drewN ?_ _ | refine blk_drew ?_ | refine blk_alloc ?_ _)); exact BK142.out⟩, ⟨by (with_reducible repeat (first | refine blk_drewN ?_ _ | refine blk_drew ?_ | refine blk_alloc ?_ _)); refine blk_put (cs := #[.int .i64 ((rd_T59 l0_1 x3_2).f0), .int .i64 0]) ?_ 1 _ rfl; (with_reducible repeat (first | refine blk_drewN ?_ _ | refine blk_drew ?_ | refine blk_alloc ?_ _)); refine blk_put (cs := #[.int .i64 0, .int .i64 0]) ?_ 0 _ rfl; (with_reducible repeat (first | refine blk_drewN ?_ _ | refine blk_drew ?_ | refine blk_alloc ?_ _)); exact BK144.out⟩, ⟨by repeat (first | (with_reducible first | exact HB.out | apply below_alloc | apply pw_below_drewN | apply below_drew1 | refine below_set ?_ GE142.out | refine below_set ?_ GE144.out) | exact HB.out)⟩⟩
                    · rw [if_neg c20] at H
                      have c20b0 : decide (((rd_T59 l0_1 x3_2).f1) ≤ ((rd_T59 l0_1 x3_2).f0)) = false := decide_eq_false c20
                      clear c20
                      have H' := Aside0.mk H
                      clear H
                      have hnb23 := NB144_142.out
                      have hnc23 := NB142_144.out
                      have hcz24_0 : w14.cell? ⟨gb144, 0, none⟩ = some (.int .i64 0) := (blk_cell BK144.out 0).trans rfl
                      have hcz24_1 : w14.cell? ⟨gb144, 1, none⟩ = some (.int .i64 0) := (blk_cell BK144.out 1).trans rfl
                      have hfz24_0 := blk_frozen BK144.out 0
                      have hfz24_1 := blk_frozen BK144.out 1
                      have hcz25_0 : w14.cell? ⟨gb142, 0, none⟩ = some (.int .i64 a0_0) := (blk_cell BK142.out 0).trans rfl
                      have hcz25_1 : w14.cell? ⟨gb142, 1, none⟩ = some (.slice (some ad143) l0_1.length c0_1) := (blk_cell BK142.out 1).trans rfl
                      have hfz25_0 := blk_frozen BK142.out 0
                      have hfz25_1 := blk_frozen BK142.out 1
                      go_wp2
                      go_meet
                      case rel => exact ⟨_, (decide (((rd_T59 l0_1 x3_2).f1) ≥ a0_0)), (by first | rfl | (simp; done) | (simp [*]; done)), H', ⟨by have := HJ1.out; have := HK2.out; first | omega | exact Nat.le_refl _⟩, ⟨by (with_reducible repeat (first | refine blk_drewN ?_ _ | refine blk_drew ?_ | refine blk_alloc ?_ _)); refine blk_far ?_ NB142_144.out _; (with_reducible repeat (first | refine blk_drewN ?_ _ | refine blk_drew ?_ | refine blk_alloc ?_ _)); refine blk_far ?_ NB142_144.out _; (with_reducible repeat (first | refine blk_drewN ?_ _ | refine blk_drew ?_ | refine blk_alloc ?_ _)); exact BK142.out⟩, ⟨by (with_reducible repeat (first | refine blk_drewN ?_ _ | refine blk_drew ?_ | refine blk_alloc ?_ _)); refine blk_put (cs := #[.int .i64 ((rd_T59 l0_1 x3_2).f0), .int .i64 0]) ?_ 1 _ rfl; (with_reducible repeat (first | refine blk_drewN ?_ _ | refine blk_drew ?_ | refine blk_alloc ?_ _)); refine blk_put (cs := #[.int .i64 0, .int .i64 0]) ?_ 0 _ rfl; (with_reducible repeat (first | refine blk_drewN ?_ _ | refine blk_drew ?_ | refine blk_alloc ?_ _)); exact BK144.out⟩, ⟨by repeat (first | (with_reducible first | exact HB.out | apply below_alloc | apply pw_below_drewN | apply below_drew1 | refine below_set ?_ GE142.out | refine below_set ?_ GE144.out) | exact HB.out)⟩⟩
                case rest =>
                  clear HC12
                  try clear c1
                  try clear p1
                  try clear q1
                  try clear hx1
                  try clear c2
                  try clear p2
                  try clear c4
                  try clear c4b0
                  try clear c6
                  try clear c6b0
                  try clear c9
                  try clear c10
                  try clear c10b0
                  try clear c11
                  try clear c11b0
                  try clear c13
                  try clear p14
                  try clear q14
                  try clear hx14
                  try clear c15
                  try clear c17
                  try clear c17b0
                  try clear c18
                  try clear c20
                  try clear c20b0
                  try clear c21
                  try clear c23
                  try clear hcz13_0
                  try clear hcz13_1
                  try clear hcz16_0
                  try clear hcz16_1
                  try clear hcz19_0
                  try clear hcz19_1
                  try clear hcz22_0
                  try clear hcz22_1
                  try clear hcz24_0
                  try clear hcz24_1
                  try clear hcz25_0
                  try clear hcz25_1
                  try clear hcz5_0
                  try clear hcz5_1
                  try clear hcz7_0
                  try clear hcz7_1
                  try clear hcz8_0
                  try clear hcz8_1
                  try clear hfz13_0
                  try clear hfz13_1
                  try clear hfz16_0
                  try clear hfz16_1
                  try clear hfz19_0
                  try clear hfz19_1
                  try clear hfz22_0
                  try clear hfz22_1
                  try clear hfz24_0
                  try clear hfz24_1
                  try clear hfz25_0
                  try clear hfz25_1
                  try clear hfz5_0
                  try clear hfz5_1
                  try clear hfz7_0
                  try clear hfz7_1
                  try clear hfz8_0
                  try clear hfz8_1
                  try clear hx143_0
                  try clear hx143_1
                  try clear p143
                  try clear p2
                  try clear q143
                  obtain ⟨kq, x48_11, rfl, HA, HJ11, BK142, BK144, HB⟩ := hcut
                  cases kq with
                  | zero => exact absurd HA.out (by simp [tangramref03_Valid.j2])
                  | succ kj11 =>
                    have H := HA.out
                    clear HA
                    simp only [tangramref03_Valid.j2] at H
                    by_cases c26 : x48_11 = true
                    · subst c26
                      have H1 : (some false) = some r := by rw [if_pos rfl] at H; exact H
                      clear H
                      have H := H1
                      clear H1
                      obtain rfl := Option.some.inj H
                      go_wp2
                      go_ret
                      exact ⟨by first | rfl | (simp [errW_none, errW_some] <;> rfl) | (simp [*, errW_none, errW_some] <;> rfl), by repeat (first | (with_reducible first | exact HB.out | apply below_alloc | apply pw_below_drewN | apply below_drew1 | refine below_set ?_ GE142.out | refine below_set ?_ GE144.out) | exact HB.out)⟩
                    · replace c26 := Bool.eq_false_iff.mpr c26
                      subst c26
                      have H1 : (if x3_2 > 0 then (if 0 ≤ (wrap64 (x3_2 - 1)) then (if (wrap64 (x3_2 - 1)) < (l0_1.length : Int) then ((tangramref03_Less.f ((rd_T59 l0_1 (wrap64 (x3_2 - 1))).f0) ((rd_T59 l0_1 (wrap64 (x3_2 - 1))).f1) ((rd_T59 l0_1 x3_2).f0) ((rd_T59 l0_1 x3_2).f1)).bind fun t146 => (if t146 = true then (tangramref03_Valid.l0 kj11 (wrap64 (x3_2 + 1)) a0_0 l0_1) else (some false))) else (none)) else (none)) else (tangramref03_Valid.l0 kj11 (wrap64 (x3_2 + 1)) a0_0 l0_1)) = some r := by rw [if_neg (show ¬ (false = true) by decide)] at H; exact H
                      clear H
                      have H := H1
                      clear H1
                      by_cases c27 : x3_2 > 0
                      · rw [if_pos c27] at H
                        have c27b0 : decide (0 < x3_2) = true := decide_eq_true c27
                        clear c27
                        obtain ⟨ji28, hji28⟩ : ∃ j_ : Int, (wrap64 (x3_2 - 1)) = j_ := ⟨_, rfl⟩
                        replace H : (if 0 ≤ (ji28) then (if (ji28) < (l0_1.length : Int) then ((tangramref03_Less.f ((rd_T59 l0_1 (ji28)).f0) ((rd_T59 l0_1 (ji28)).f1) ((rd_T59 l0_1 x3_2).f0) ((rd_T59 l0_1 x3_2).f1)).bind fun t146 => (if t146 = true then (tangramref03_Valid.l0 kj11 (wrap64 (x3_2 + 1)) a0_0 l0_1) else (some false))) else (none)) else (none)) = some r := by first | (rw [hji28] at H; exact H) | (simp only [hji28] at H ⊢; exact H)
                        have hji28w : (IntKind.i64.wrap (x3_2 - 1)) = ji28 := (i64_w _).trans hji28
                        by_cases c29 : 0 ≤ (ji28)
                        · rw [if_pos c29] at H
                          have c29b0 : decide (0 ≤ (ji28)) = true := decide_eq_true c29
                          clear c29
                          by_cases c30 : (ji28) < (l0_1.length : Int)
                          · rw [if_pos c30] at H
                            have c30b0 : decide ((ji28) < (l0_1.length : Int)) = true := decide_eq_true c30
                            clear c30
                            replace H := Option.bind_eq_some_iff.mp H
                            obtain ⟨t146, A310, H⟩ := H
                            replace H : (if t146 = true then (tangramref03_Valid.l0 kj11 (wrap64 (x3_2 + 1)) a0_0 l0_1) else (some false)) = some r := H
                            have A31 := Aside0.mk A310
                            clear A310
                            by_cases c32 : t146 = true
                            · subst c32
                              have H1 : (tangramref03_Valid.l0 kj11 (wrap64 (x3_2 + 1)) a0_0 l0_1) = some r := by rw [if_pos rfl] at H; exact H
                              clear H
                              have H := H1
                              clear H1
                              have H' := Aside0.mk H
                              clear H
                              try go_wp2
                              have n0_ := Aside0.mk (blk_drew BK142.out)
                              have n1_ := Aside0.mk (blk_drew BK144.out)
                              have n2_ := Aside0.mk (below_drew1 HB.out)
                              clear BK142
                              clear BK144
                              clear HB
                              have BK142 := n0_
                              have BK144 := n1_
                              have HB := n2_
                              clear n0_ n1_ n2_
                              have p145 : 0 ≤ ((ji28) : Int) := of_decide_eq_true (by first | (with_reducible assumption) | assumption)
                              have q145 : (ji28) < (l0_1.length : Int) := of_decide_eq_true (by first | (with_reducible assumption) | assumption)
                              obtain ⟨ad145, e145, hx145_0, hx145_1⟩ := at_T59 HR0_1.out (ji28) p145 q145
                              have hw145_1 := hx145_1
                              have hw145_0 := hx145_0
                              obtain rfl : ad143 = ad145 := (by injection e145)
                              replace hx145_0 := (HB.out.cell (World.block_lt_of_cell? w _ hx145_0)).trans hx145_0
                              replace hx145_1 := (HB.out.cell (World.block_lt_of_cell? w _ hx145_1)).trans hx145_1
                              replace p145 := eq_true p145
                              replace q145 := eq_true q145
                              refine start_ (n := 9) (S := fun w' => w'.cell? ⟨gb142, 0, none⟩ = some (.int .i64 a0_0) ∧ w'.cell? ⟨gb142, 1, none⟩ = some (.slice (some ad143) l0_1.length c0_1) ∧ w'.cell? ⟨gb144, 0, none⟩ = some (.int .i64 ((rd_T59 l0_1 x3_2).f0)) ∧ w'.cell? ⟨gb144, 1, none⟩ = some (.int .i64 ((rd_T59 l0_1 x3_2).f1)) ∧ w'.cell? (ad143.add (((ji28)).toNat * 2)) = some (.int .i64 ((rd_T59 l0_1 (ji28)).f0)) ∧ w'.cell? ⟨(ad143.add (((ji28)).toNat * 2)).block, (ad143.add (((ji28)).toNat * 2)).off + 1, none⟩ = some (.int .i64 ((rd_T59 l0_1 (ji28)).f1))) (ds := []) #[false, false, false, false, false, false, false, false, false] (by kernel_rfl) rfl rfl ⟨(blk_cell BK142.out 0).trans rfl, (blk_cell BK142.out 1).trans rfl, (blk_cell BK144.out 0).trans rfl, (blk_cell BK144.out 1).trans rfl, ((HB.out.cell (World.block_lt_of_cell? w _ hw145_0)).trans hw145_0), ((HB.out.cell (World.block_lt_of_cell? w _ hw145_1)).trans hw145_1)⟩ (fun hHeld => ?_); refine with_tabW tangramref03_Valid.tab10 tangramref03_Valid.bits10 (fun HT_ HW_ => ?_)
                              generalize wc.drew = w33 at BK142 BK144 HB hx145_0 hx145_1 hHeld ⊢
                              refine pure_ (i := 0) (N := some 51) (v := ?_) (a' := ?_) #[true, false, false, false, false, false, false, false, false] rfl rfl (any_of HT_.out (by kernel_rfl)) (fun _ _ _ h => h) (Or.inl ⟨by rfl, ?_⟩) ?_ ?_
                              rotate_left
                              · intro w'
                                go_simp
                                with_reducible rfl
                              rotate_left
                              · simp only [Act.put, List.setIfInBounds_toArray, List.set_cons_zero, List.set_cons_succ, i64_w, i32_w]
                                rfl
                              refine pure_ (i := 2) (N := some 53) (v := ?_) (a' := ?_) #[true, false, true, false, false, false, false, false, false] rfl rfl (any_of HT_.out (by kernel_rfl)) (fun _ _ _ h => h) (Or.inl ⟨by rfl, ?_⟩) ?_ ?_
                              rotate_left
                              · intro w'
                                go_simp
                                with_reducible rfl
                              rotate_left
                              · simp only [Act.put, List.setIfInBounds_toArray, List.set_cons_zero, List.set_cons_succ, i64_w, i32_w]
                                rfl
                              refine pure_ (i := 3) (N := some 54) (v := ?_) (a' := ?_) #[true, false, true, true, false, false, false, false, false] rfl rfl (any_of HT_.out (by kernel_rfl)) (fun _ _ _ h => h) (Or.inl ⟨by rfl, ?_⟩) ?_ ?_
                              rotate_left
                              · intro w'
                                go_simp
                                with_reducible rfl
                              rotate_left
                              · simp only [Act.put, List.setIfInBounds_toArray, List.set_cons_zero, List.set_cons_succ, i64_w, i32_w]
                                rfl
                              refine take_ (i := 1) (N := some 52) (v := ?_) (a' := ?_) #[true, true, true, true, false, false, false, false, false] rfl rfl (take_ofW HT_.out HW_.out (by kernel_rfl)) (fun _ _ _ h => h) (Or.inl ⟨by rfl, ?_⟩) hHeld ?_ ?_
                              rotate_left
                              · rintro w' ⟨s0, s1, s2, s3, s4, s5⟩
                                go_simp
                                with_reducible rfl
                              rotate_left
                              · simp only [Act.put, List.setIfInBounds_toArray, List.set_cons_zero, List.set_cons_succ, i64_w, i32_w]
                                rfl
                              refine pure_ (i := 4) (N := some 55) (v := ?_) (a' := ?_) #[true, true, true, true, true, false, false, false, false] rfl rfl (any_of HT_.out (by kernel_rfl)) (fun _ _ _ h => h) (Or.inl ⟨by rfl, ?_⟩) ?_ ?_
                              rotate_left
                              · intro w'
                                go_simp
                                with_reducible rfl
                              rotate_left
                              · simp only [Act.put, List.setIfInBounds_toArray, List.set_cons_zero, List.set_cons_succ, i64_w, i32_w]
                                rfl
                              refine take_ (i := 5) (N := some 56) (v := ?_) (a' := ?_) #[true, true, true, true, true, true, false, false, false] rfl rfl (take_ofW HT_.out HW_.out (by kernel_rfl)) (fun _ _ _ h => h) (Or.inl ⟨by rfl, ?_⟩) hHeld ?_ ?_
                              rotate_left
                              · rintro w' ⟨s0, s1, s2, s3, s4, s5⟩
                                go_simp
                                with_reducible rfl
                              rotate_left
                              · simp only [Act.put, List.setIfInBounds_toArray, List.set_cons_zero, List.set_cons_succ, i64_w, i32_w]
                                rfl
                              refine take_ (i := 6) (N := some 57) (v := ?_) (a' := ?_) #[true, true, true, true, true, true, true, false, false] rfl rfl (take_ofW HT_.out HW_.out (by kernel_rfl)) (fun _ _ _ h => h) (Or.inl ⟨by rfl, ?_⟩) hHeld ?_ ?_
                              rotate_left
                              · rintro w' ⟨s0, s1, s2, s3, s4, s5⟩
                                go_simp
                                with_reducible rfl
                              rotate_left
                              · simp only [Act.put, List.setIfInBounds_toArray, List.set_cons_zero, List.set_cons_succ, i64_w, i32_w]
                                rfl
                              refine one_ (i := 7) (N := some 58) #[true, true, true, true, true, true, true, true, false] rfl rfl (one_of HT_.out (by kernel_rfl)) (by decide) (fun K hK => ?_)
                              refine goes_ Try.func33 (by kernel_rfl) rfl #[.agg #[.int .i64 ((rd_T59 l0_1 (ji28)).f0), .int .i64 ((rd_T59 l0_1 (ji28)).f1)], .agg #[.int .i64 ((rd_T59 l0_1 x3_2).f0), .int .i64 ((rd_T59 l0_1 x3_2).f1)]] (by rfl) rfl rfl (by (try simp only [List.map_toArray, List.map_cons, List.map_nil]); first | done | (simp only [hji28]; rfl) | rfl | (simp only [List.length_drop, List.length_take]; rfl)) ?_
                              with_reducible refine (tangramref03_Less.calls ((rd_T59 l0_1 (ji28)).f0) ((rd_T59 l0_1 (ji28)).f1) ((rd_T59 l0_1 x3_2).f0) ((rd_T59 l0_1 x3_2).f1) true _ A31.out).mono ?_
                              rintro e w34 ⟨rfl, hb⟩
                              refine ⟨_, rfl, ?_⟩
                              have n0_ := Aside0.mk (blk_below (g := gb142) (o := .cells #[.int .i64 a0_0, .slice (some ad143) l0_1.length c0_1] 24 (0, 0)) (by (with_reducible repeat (first | refine blk_drewN ?_ _ | refine blk_drew ?_ | refine blk_alloc ?_ _)); exact BK142.out) hb)
                              have n1_ := Aside0.mk (blk_below (g := gb144) (o := .cells #[.int .i64 ((rd_T59 l0_1 x3_2).f0), .int .i64 ((rd_T59 l0_1 x3_2).f1)] 59 (0, 0)) (by (with_reducible repeat (first | refine blk_drewN ?_ _ | refine blk_drew ?_ | refine blk_alloc ?_ _)); exact BK144.out) hb)
                              have n2_ := Aside0.mk (below_step (by repeat (first | (with_reducible first | exact HB.out | apply below_alloc | apply pw_below_drewN | apply below_drew1 | refine below_set ?_ GE142.out | refine below_set ?_ GE144.out) | exact HB.out)) hb)
                              clear BK142
                              clear BK144
                              clear HB
                              have BK142 := n0_
                              have BK144 := n1_
                              have HB := n2_
                              clear n0_ n1_ n2_
                              (try clear hb)
                              (try clear hb2)
                              (try clear hk)
                              (try clear hi)
                              refine hK.out _ _ ⟨(blk_cell BK142.out 0).trans rfl, (blk_cell BK142.out 1).trans rfl, (blk_cell BK144.out 0).trans rfl, (blk_cell BK144.out 1).trans rfl, ((HB.out.cell (World.block_lt_of_cell? w _ hw145_0)).trans hw145_0), ((HB.out.cell (World.block_lt_of_cell? w _ hw145_1)).trans hw145_1)⟩ (fun hHeld => ?_)
                              clear hK K
                              refine norm_ (a' := ?_) ?_ ?_
                              rotate_left
                              · show Act.put _ (some 58) _ = _
                                simp only [Act.put, List.setIfInBounds_toArray, List.set_cons_zero, List.set_cons_succ, i64_w, i32_w]
                                rfl
                              refine pure_ (i := 8) (N := some 5) (v := ?_) (a' := ?_) #[true, true, true, true, true, true, true, true, true] rfl rfl (any_of HT_.out (by kernel_rfl)) (fun _ _ _ h => h) (Or.inl ⟨by rfl, ?_⟩) ?_ ?_
                              rotate_left
                              · intro w'
                                go_simp
                                with_reducible rfl
                              rotate_left
                              · simp only [Act.put, List.setIfInBounds_toArray, List.set_cons_zero, List.set_cons_succ, i64_w, i32_w]
                                rfl
                              refine done_ (done_of HT_.out (by kernel_rfl)) ?_
                              try go_wp2
                              go_roundg kj11
                              case measure => have := HJ1.out; have := HK2.out; have := HJ11.out; omega
                              case rel => exact ⟨(wrap64 (x3_2 + 1)), (by first | rfl | (simp; done) | (simp [*]; done)), H', ⟨by have := HJ1.out; have := HK2.out; have := HJ11.out; omega⟩, ⟨by (with_reducible repeat (first | refine blk_drewN ?_ _ | refine blk_drew ?_ | refine blk_alloc ?_ _)); exact BK142.out⟩, ⟨by repeat (first | (with_reducible first | exact HB.out | apply below_alloc | apply pw_below_drewN | apply below_drew1 | refine below_set ?_ GE142.out | refine below_set ?_ GE144.out) | exact HB.out)⟩⟩
                            · replace c32 := Bool.eq_false_iff.mpr c32
                              subst c32
                              have H1 : (some false) = some r := by rw [if_neg (show ¬ (false = true) by decide)] at H; exact H
                              clear H
                              have H := H1
                              clear H1
                              obtain rfl := Option.some.inj H
                              try go_wp2
                              have n0_ := Aside0.mk (blk_drew BK142.out)
                              have n1_ := Aside0.mk (blk_drew BK144.out)
                              have n2_ := Aside0.mk (below_drew1 HB.out)
                              clear BK142
                              clear BK144
                              clear HB
                              have BK142 := n0_
                              have BK144 := n1_
                              have HB := n2_
                              clear n0_ n1_ n2_
                              have p145 : 0 ≤ ((ji28) : Int) := of_decide_eq_true (by first | (with_reducible assumption) | assumption)
                              have q145 : (ji28) < (l0_1.length : Int) := of_decide_eq_true (by first | (with_reducible assumption) | assumption)
                              obtain ⟨ad145, e145, hx145_0, hx145_1⟩ := at_T59 HR0_1.out (ji28) p145 q145
                              have hw145_1 := hx145_1
                              have hw145_0 := hx145_0
                              obtain rfl : ad143 = ad145 := (by injection e145)
                              replace hx145_0 := (HB.out.cell (World.block_lt_of_cell? w _ hx145_0)).trans hx145_0
                              replace hx145_1 := (HB.out.cell (World.block_lt_of_cell? w _ hx145_1)).trans hx145_1
                              replace p145 := eq_true p145
                              replace q145 := eq_true q145
                              refine start_ (n := 9) (S := fun w' => w'.cell? ⟨gb142, 0, none⟩ = some (.int .i64 a0_0) ∧ w'.cell? ⟨gb142, 1, none⟩ = some (.slice (some ad143) l0_1.length c0_1) ∧ w'.cell? ⟨gb144, 0, none⟩ = some (.int .i64 ((rd_T59 l0_1 x3_2).f0)) ∧ w'.cell? ⟨gb144, 1, none⟩ = some (.int .i64 ((rd_T59 l0_1 x3_2).f1)) ∧ w'.cell? (ad143.add (((ji28)).toNat * 2)) = some (.int .i64 ((rd_T59 l0_1 (ji28)).f0)) ∧ w'.cell? ⟨(ad143.add (((ji28)).toNat * 2)).block, (ad143.add (((ji28)).toNat * 2)).off + 1, none⟩ = some (.int .i64 ((rd_T59 l0_1 (ji28)).f1))) (ds := []) #[false, false, false, false, false, false, false, false, false] (by kernel_rfl) rfl rfl ⟨(blk_cell BK142.out 0).trans rfl, (blk_cell BK142.out 1).trans rfl, (blk_cell BK144.out 0).trans rfl, (blk_cell BK144.out 1).trans rfl, ((HB.out.cell (World.block_lt_of_cell? w _ hw145_0)).trans hw145_0), ((HB.out.cell (World.block_lt_of_cell? w _ hw145_1)).trans hw145_1)⟩ (fun hHeld => ?_); refine with_tabW tangramref03_Valid.tab10 tangramref03_Valid.bits10 (fun HT_ HW_ => ?_)
                              generalize wc.drew = w35 at BK142 BK144 HB hx145_0 hx145_1 hHeld ⊢
                              refine pure_ (i := 0) (N := some 51) (v := ?_) (a' := ?_) #[true, false, false, false, false, false, false, false, false] rfl rfl (any_of HT_.out (by kernel_rfl)) (fun _ _ _ h => h) (Or.inl ⟨by rfl, ?_⟩) ?_ ?_
                              rotate_left
                              · intro w'
                                go_simp
                                with_reducible rfl
                              rotate_left
                              · simp only [Act.put, List.setIfInBounds_toArray, List.set_cons_zero, List.set_cons_succ, i64_w, i32_w]
                                rfl
                              refine pure_ (i := 2) (N := some 53) (v := ?_) (a' := ?_) #[true, false, true, false, false, false, false, false, false] rfl rfl (any_of HT_.out (by kernel_rfl)) (fun _ _ _ h => h) (Or.inl ⟨by rfl, ?_⟩) ?_ ?_
                              rotate_left
                              · intro w'
                                go_simp
                                with_reducible rfl
                              rotate_left
                              · simp only [Act.put, List.setIfInBounds_toArray, List.set_cons_zero, List.set_cons_succ, i64_w, i32_w]
                                rfl
                              refine pure_ (i := 3) (N := some 54) (v := ?_) (a' := ?_) #[true, false, true, true, false, false, false, false, false] rfl rfl (any_of HT_.out (by kernel_rfl)) (fun _ _ _ h => h) (Or.inl ⟨by rfl, ?_⟩) ?_ ?_
                              rotate_left
                              · intro w'
                                go_simp
                                with_reducible rfl
                              rotate_left
                              · simp only [Act.put, List.setIfInBounds_toArray, List.set_cons_zero, List.set_cons_succ, i64_w, i32_w]
                                rfl
                              refine take_ (i := 1) (N := some 52) (v := ?_) (a' := ?_) #[true, true, true, true, false, false, false, false, false] rfl rfl (take_ofW HT_.out HW_.out (by kernel_rfl)) (fun _ _ _ h => h) (Or.inl ⟨by rfl, ?_⟩) hHeld ?_ ?_
                              rotate_left
                              · rintro w' ⟨s0, s1, s2, s3, s4, s5⟩
                                go_simp
                                with_reducible rfl
                              rotate_left
                              · simp only [Act.put, List.setIfInBounds_toArray, List.set_cons_zero, List.set_cons_succ, i64_w, i32_w]
                                rfl
                              refine pure_ (i := 4) (N := some 55) (v := ?_) (a' := ?_) #[true, true, true, true, true, false, false, false, false] rfl rfl (any_of HT_.out (by kernel_rfl)) (fun _ _ _ h => h) (Or.inl ⟨by rfl, ?_⟩) ?_ ?_
                              rotate_left
                              · intro w'
                                go_simp
                                with_reducible rfl
                              rotate_left
                              · simp only [Act.put, List.setIfInBounds_toArray, List.set_cons_zero, List.set_cons_succ, i64_w, i32_w]
                                rfl
                              refine take_ (i := 5) (N := some 56) (v := ?_) (a' := ?_) #[true, true, true, true, true, true, false, false, false] rfl rfl (take_ofW HT_.out HW_.out (by kernel_rfl)) (fun _ _ _ h => h) (Or.inl ⟨by rfl, ?_⟩) hHeld ?_ ?_
                              rotate_left
                              · rintro w' ⟨s0, s1, s2, s3, s4, s5⟩
                                go_simp
                                with_reducible rfl
                              rotate_left
                              · simp only [Act.put, List.setIfInBounds_toArray, List.set_cons_zero, List.set_cons_succ, i64_w, i32_w]
                                rfl
                              refine take_ (i := 6) (N := some 57) (v := ?_) (a' := ?_) #[true, true, true, true, true, true, true, false, false] rfl rfl (take_ofW HT_.out HW_.out (by kernel_rfl)) (fun _ _ _ h => h) (Or.inl ⟨by rfl, ?_⟩) hHeld ?_ ?_
                              rotate_left
                              · rintro w' ⟨s0, s1, s2, s3, s4, s5⟩
                                go_simp
                                with_reducible rfl
                              rotate_left
                              · simp only [Act.put, List.setIfInBounds_toArray, List.set_cons_zero, List.set_cons_succ, i64_w, i32_w]
                                rfl
                              refine one_ (i := 7) (N := some 58) #[true, true, true, true, true, true, true, true, false] rfl rfl (one_of HT_.out (by kernel_rfl)) (by decide) (fun K hK => ?_)
                              refine goes_ Try.func33 (by kernel_rfl) rfl #[.agg #[.int .i64 ((rd_T59 l0_1 (ji28)).f0), .int .i64 ((rd_T59 l0_1 (ji28)).f1)], .agg #[.int .i64 ((rd_T59 l0_1 x3_2).f0), .int .i64 ((rd_T59 l0_1 x3_2).f1)]] (by rfl) rfl rfl (by (try simp only [List.map_toArray, List.map_cons, List.map_nil]); first | done | (simp only [hji28]; rfl) | rfl | (simp only [List.length_drop, List.length_take]; rfl)) ?_
                              with_reducible refine (tangramref03_Less.calls ((rd_T59 l0_1 (ji28)).f0) ((rd_T59 l0_1 (ji28)).f1) ((rd_T59 l0_1 x3_2).f0) ((rd_T59 l0_1 x3_2).f1) false _ A31.out).mono ?_
                              rintro e w36 ⟨rfl, hb⟩
                              refine ⟨_, rfl, ?_⟩
                              have n0_ := Aside0.mk (blk_below (g := gb142) (o := .cells #[.int .i64 a0_0, .slice (some ad143) l0_1.length c0_1] 24 (0, 0)) (by (with_reducible repeat (first | refine blk_drewN ?_ _ | refine blk_drew ?_ | refine blk_alloc ?_ _)); exact BK142.out) hb)
                              have n1_ := Aside0.mk (blk_below (g := gb144) (o := .cells #[.int .i64 ((rd_T59 l0_1 x3_2).f0), .int .i64 ((rd_T59 l0_1 x3_2).f1)] 59 (0, 0)) (by (with_reducible repeat (first | refine blk_drewN ?_ _ | refine blk_drew ?_ | refine blk_alloc ?_ _)); exact BK144.out) hb)
                              have n2_ := Aside0.mk (below_step (by repeat (first | (with_reducible first | exact HB.out | apply below_alloc | apply pw_below_drewN | apply below_drew1 | refine below_set ?_ GE142.out | refine below_set ?_ GE144.out) | exact HB.out)) hb)
                              clear BK142
                              clear BK144
                              clear HB
                              have BK142 := n0_
                              have BK144 := n1_
                              have HB := n2_
                              clear n0_ n1_ n2_
                              (try clear hb)
                              (try clear hb2)
                              (try clear hk)
                              (try clear hi)
                              refine hK.out _ _ ⟨(blk_cell BK142.out 0).trans rfl, (blk_cell BK142.out 1).trans rfl, (blk_cell BK144.out 0).trans rfl, (blk_cell BK144.out 1).trans rfl, ((HB.out.cell (World.block_lt_of_cell? w _ hw145_0)).trans hw145_0), ((HB.out.cell (World.block_lt_of_cell? w _ hw145_1)).trans hw145_1)⟩ (fun hHeld => ?_)
                              clear hK K
                              refine norm_ (a' := ?_) ?_ ?_
                              rotate_left
                              · show Act.put _ (some 58) _ = _
                                simp only [Act.put, List.setIfInBounds_toArray, List.set_cons_zero, List.set_cons_succ, i64_w, i32_w]
                                rfl
                              refine pure_ (i := 8) (N := some 5) (v := ?_) (a' := ?_) #[true, true, true, true, true, true, true, true, true] rfl rfl (any_of HT_.out (by kernel_rfl)) (fun _ _ _ h => h) (Or.inl ⟨by rfl, ?_⟩) ?_ ?_
                              rotate_left
                              · intro w'
                                go_simp
                                with_reducible rfl
                              rotate_left
                              · simp only [Act.put, List.setIfInBounds_toArray, List.set_cons_zero, List.set_cons_succ, i64_w, i32_w]
                                rfl
                              refine done_ (done_of HT_.out (by kernel_rfl)) ?_
                              try go_wp2
                              go_ret
                              exact ⟨by first | rfl | (simp [errW_none, errW_some] <;> rfl) | (simp only [← hji28]; first | rfl | (simp [errW_none, errW_some] <;> rfl)) | (simp [*, errW_none, errW_some] <;> rfl), by repeat (first | (with_reducible first | exact HB.out | apply below_alloc | apply pw_below_drewN | apply below_drew1 | refine below_set ?_ GE142.out | refine below_set ?_ GE144.out) | exact HB.out)⟩
                          · rw [if_neg c30] at H
                            exact absurd H (by simp)
                        · rw [if_neg c29] at H
                          exact absurd H (by simp)
                      · rw [if_neg c27] at H
                        have c27b0 : decide (0 < x3_2) = false := decide_eq_false c27
                        clear c27
                        have H' := Aside0.mk H
                        clear H
                        go_wp2
                        go_roundg kj11
                        case measure => have := HJ1.out; have := HK2.out; have := HJ11.out; omega
                        case rel => exact ⟨(wrap64 (x3_2 + 1)), (by first | rfl | (simp; done) | (simp [*]; done)), H', ⟨by have := HJ1.out; have := HK2.out; have := HJ11.out; omega⟩, ⟨by (with_reducible repeat (first | refine blk_drewN ?_ _ | refine blk_drew ?_ | refine blk_alloc ?_ _)); exact BK142.out⟩, ⟨by repeat (first | (with_reducible first | exact HB.out | apply below_alloc | apply pw_below_drewN | apply below_drew1 | refine below_set ?_ GE142.out | refine below_set ?_ GE144.out) | exact HB.out)⟩⟩
              · rw [if_neg c11] at H
                exact absurd H (by simp)
            · rw [if_neg c10] at H
              have c10b0 : decide (x3_2 < (l0_1.length : Int)) = false := decide_eq_false c10
              clear c10
              obtain rfl := Option.some.inj H
              have hcz37_0 : wr.cell? ⟨gb142, 0, none⟩ = some (.int .i64 a0_0) := (blk_cell BK142.out 0).trans rfl
              have hcz37_1 : wr.cell? ⟨gb142, 1, none⟩ = some (.slice A0_1 l0_1.length c0_1) := (blk_cell BK142.out 1).trans rfl
              have hfz37_0 := blk_frozen BK142.out 0
              have hfz37_1 := blk_frozen BK142.out 1
              go_wp2
              go_ret
              exact ⟨by first | rfl | (simp [errW_none, errW_some] <;> rfl) | (simp [*, errW_none, errW_some] <;> rfl), by repeat (first | (with_reducible first | exact HB.out | apply below_alloc | apply pw_below_drewN | apply below_drew1 | refine below_set ?_ GE142.out) | exact HB.out)⟩

end Go.Proofs.Ytkkhhbegeboonaa.GAll
/- DERIVED. What the printed forms of simple.Valid, tangramref03.Valid answer: one and the same, and when true. Degrees and both Isolated. -/


namespace Go.Proofs.Ytkkhhbegeboonaa.PureV
open Go.RowKit Go.Proofs.YtkkhhbegeboonaaW.PrintWords Go.Proofs.YtkkhhbegeboonaaW.PrintLast Go.Proofs.YtkkhhbegeboonaaW.PrintMore Go.Proofs.Ytkkhhbegeboonaa.GAll
set_option linter.unusedVariables false
set_option linter.unusedSimpArgs false
abbrev E := S59
abbrev rdE := rd_T59
/-- an edge's numbers are right -/
def okE (n : Int) (x : E) : Prop := 0 ≤ x.f0 ∧ x.f0 < x.f1 ∧ x.f1 < n
def lt (x y : E) : Prop := x.f0 < y.f0 ∨ (x.f0 = y.f0 ∧ x.f1 < y.f1)
def Ok (n : Int) (l : List E) (i : Nat) : Prop := okE n (rdE l (i : Nat)) ∧ (0 < i → lt (rdE l ((i - 1 : Nat) : Int)) (rdE l (i : Nat)))
def Good (n : Int) (l : List E) : Prop := 0 ≤ n ∧ n ≤ 1048576 ∧ l.length ≤ 4194304 ∧ ∀ i, i < l.length → Ok n l i
instance (n x) : Decidable (okE n x) := by unfold okE; infer_instance
instance (x y) : Decidable (lt x y) := by unfold lt; infer_instance
instance (n l i) : Decidable (Ok n l i) := by unfold Ok; infer_instance
theorem wadd {i : Nat} (h : i ≤ 9000000) : wrap64 ((i : Int) + 1) = ((i + 1 : Nat) : Int) := by rw [IntWalk.wrap64_in _ (by omega)]; omega
theorem wsub {i : Nat} (h : i ≤ 9000000) (h0 : 0 < i) : wrap64 ((i : Int) - 1) = ((i - 1 : Nat) : Int) := by rw [IntWalk.wrap64_in _ (by omega)]; omega
theorem s_step {n : Int} {l : List E} {i : Nat} (hn : 0 ≤ n ∧ n ≤ 1048576) (hl : l.length ≤ 4194304) (hi : i < l.length) (hp : ∀ j, j < i → Ok n l j) (k : Nat) :
    simple_Valid.l0 (k + 1) l (l.length : Int) (i : Int) n l = if Ok n l i then simple_Valid.l0 k l (l.length : Int) ((i + 1 : Nat) : Int) n l else some false := by
  simp only [simple_Valid.l0]
  rw [if_pos (show (i : Int) < (l.length : Int) by omega), if_pos (show (0 : Int) ≤ (i : Int) by omega), if_pos (show (i : Int) < (l.length : Int) by omega), wadd (by omega)]
  change (if (rdE l (i : Nat)).f0 < 0 then _ else _) = _
  by_cases c1 : (rdE l (i : Nat)).f0 < 0
  · rw [if_pos c1, if_neg (fun h => by have := h.1.1; omega)]
  rw [if_neg c1]
  by_cases c2 : (rdE l (i : Nat)).f0 ≥ (rdE l (i : Nat)).f1
  · rw [if_pos c2, if_neg (fun h => by have := h.1.2.1; omega)]
  rw [if_neg c2]
  by_cases c3 : (rdE l (i : Nat)).f1 ≥ n
  · rw [if_pos c3, if_neg (fun h => by have := h.1.2.2; omega)]
  rw [if_neg c3]
  by_cases c4 : 0 < i
  · rw [if_pos (show (i : Int) > 0 by omega), wsub (by omega) c4, if_pos (by omega), if_pos (by omega)]
    have hq := (hp (i - 1) (by omega)).1
    unfold okE at hq
    change (simple_compare.f (rdE l ((i - 1 : Nat) : Int)).f0 (rdE l ((i - 1 : Nat) : Int)).f1 (rdE l (i : Nat)).f0 (rdE l (i : Nat)).f1).bind _ = _
    have hOk : Ok n l i ↔ lt (rdE l ((i - 1 : Nat) : Int)) (rdE l (i : Nat)) := ⟨fun h => h.2 c4, fun h => ⟨⟨by omega, by omega, by omega⟩, fun _ => h⟩⟩
    unfold simple_compare.f
    by_cases c5 : (rdE l ((i - 1 : Nat) : Int)).f0 = (rdE l (i : Nat)).f0
    · rw [if_pos c5, Option.bind_some, IntWalk.wrap64_in _ (by omega)]
      by_cases c6 : lt (rdE l ((i - 1 : Nat) : Int)) (rdE l (i : Nat))
      · rw [if_pos (hOk.2 c6), if_neg (by unfold lt at c6; omega)]
      · rw [if_neg (fun h => c6 (hOk.1 h)), if_pos (by unfold lt at c6; omega)]
    · rw [if_neg c5, Option.bind_some, IntWalk.wrap64_in _ (by omega)]
      by_cases c6 : lt (rdE l ((i - 1 : Nat) : Int)) (rdE l (i : Nat))
      · rw [if_pos (hOk.2 c6), if_neg (by unfold lt at c6; omega)]
      · rw [if_neg (fun h => c6 (hOk.1 h)), if_pos (by unfold lt at c6; omega)]
  · rw [if_neg (by omega), if_pos (show Ok n l i from ⟨⟨by omega, by omega, by omega⟩, fun h => absurd h c4⟩)]
theorem r_step {n : Int} {l : List E} {i : Nat} (hn : 0 ≤ n ∧ n ≤ 1048576) (hl : l.length ≤ 4194304) (hi : i < l.length) (hp : ∀ j, j < i → Ok n l j) (k : Nat) :
    tangramref03_Valid.l0 (k + 2) (i : Int) n l = if Ok n l i then tangramref03_Valid.l0 k ((i + 1 : Nat) : Int) n l else some false := by
  simp only [tangramref03_Valid.l0, tangramref03_Valid.j2]
  rw [if_pos (show (i : Int) < (l.length : Int) by omega), if_pos (show (0 : Int) ≤ (i : Int) by omega), wadd (by omega)]
  change (if (rdE l (i : Nat)).f0 < 0 then _ else _) = _
  by_cases c1 : (rdE l (i : Nat)).f0 < 0
  · rw [if_pos c1, if_pos trivial, if_neg (fun h => by have := h.1.1; omega)]
  rw [if_neg c1]
  by_cases c2 : (rdE l (i : Nat)).f0 ≥ (rdE l (i : Nat)).f1
  · rw [if_pos c2, if_pos trivial, if_neg (fun h => by have := h.1.2.1; omega)]
  rw [if_neg c2]
  by_cases c3 : (rdE l (i : Nat)).f1 ≥ n
  · rw [if_pos (decide_eq_true c3), if_neg (fun h => by have := h.1.2.2; omega)]
  rw [if_neg (by simpa using c3)]
  by_cases c4 : 0 < i
  · rw [if_pos (show (i : Int) > 0 by omega), wsub (by omega) c4, if_pos (by omega), if_pos (by omega)]
    change (tangramref03_Less.f (rdE l ((i - 1 : Nat) : Int)).f0 (rdE l ((i - 1 : Nat) : Int)).f1 (rdE l (i : Nat)).f0 (rdE l (i : Nat)).f1).bind _ = _
    have hOk : Ok n l i ↔ lt (rdE l ((i - 1 : Nat) : Int)) (rdE l (i : Nat)) := ⟨fun h => h.2 c4, fun h => ⟨⟨by omega, by omega, by omega⟩, fun _ => h⟩⟩
    have hL : tangramref03_Less.f (rdE l ((i - 1 : Nat) : Int)).f0 (rdE l ((i - 1 : Nat) : Int)).f1 (rdE l (i : Nat)).f0 (rdE l (i : Nat)).f1 = some (decide (Ok n l i)) := by
      unfold tangramref03_Less.f
      by_cases c5 : (rdE l ((i - 1 : Nat) : Int)).f0 < (rdE l (i : Nat)).f0
      · rw [if_pos c5, decide_eq_true (hOk.2 (Or.inl c5))]
      rw [if_neg c5]
      by_cases c6 : (rdE l ((i - 1 : Nat) : Int)).f0 = (rdE l (i : Nat)).f0
      · rw [if_pos c6]
        congr 1
        rw [decide_eq_decide, hOk]
        unfold lt
        omega
      · rw [if_neg c6, decide_eq_false (fun h => by have := hOk.1 h; unfold lt at this; omega)]
    rw [hL, Option.bind_some]
    by_cases c : Ok n l i
    · rw [if_pos c, if_pos (decide_eq_true c)]
    · rw [if_neg c, if_neg (by simpa using c)]
  · rw [if_neg (by omega), if_pos (show Ok n l i from ⟨⟨by omega, by omega, by omega⟩, fun h => absurd h c4⟩)]
theorem loops {n : Int} {l : List E} (hn : 0 ≤ n ∧ n ≤ 1048576) (hl : l.length ≤ 4194304) (d : Nat) : ∀ i : Nat, i + d = l.length → (∀ j, j < i → Ok n l j) →
    ∃ b : Bool, Ev (fun k => simple_Valid.l0 k l (l.length : Int) (i : Int) n l) b ∧ Ev (fun k => tangramref03_Valid.l0 k (i : Int) n l) b ∧ (b = true ↔ ∀ j, j < l.length → Ok n l j) := by
  induction d with
  | zero =>
    intro i hi hp
    refine ⟨true, Ev.step (f := fun _ => some true) (fun k => ?_) (Ev.now _), Ev.step (f := fun _ => some true) (fun k => ?_) (Ev.now _), fun _ j hj => hp j (by omega), fun _ => rfl⟩
    · simp only [simple_Valid.l0]
      rw [if_neg (by omega)]
    · simp only [tangramref03_Valid.l0]
      rw [if_neg (by omega)]
  | succ d ih =>
    intro i hi hp
    by_cases c : Ok n l i
    · obtain ⟨b, h1, h2, h3⟩ := ih (i + 1) (by omega) (fun j hj => by
        rcases Nat.lt_or_ge j i with h | h
        · exact hp j h
        · obtain rfl : j = i := by omega
          exact c)
      refine ⟨b, Ev.step (fun k => (s_step hn hl (by omega) hp k).trans (if_pos c)) h1, ?_, h3⟩
      obtain ⟨K, h2⟩ := h2
      refine ⟨K + 2, fun k hk => ?_⟩
      obtain ⟨m, rfl⟩ : ∃ m, k = m + 2 := ⟨k - 2, by omega⟩
      show tangramref03_Valid.l0 (m + 2) _ _ _ = _
      rw [r_step hn hl (by omega) hp m, if_pos c]
      exact h2 m (by omega)
    · refine ⟨false, Ev.step (f := fun _ => some false) (fun k => (s_step hn hl (by omega) hp k).trans (if_neg c)) (Ev.now _), ⟨2, fun k hk => ?_⟩, ⟨fun h => (by cases h), fun h => absurd (h i (by omega)) c⟩⟩
      obtain ⟨m, rfl⟩ : ∃ m, k = m + 2 := ⟨k - 2, by omega⟩
      show tangramref03_Valid.l0 (m + 2) _ _ _ = _
      rw [r_step hn hl (by omega) hp m, if_neg c]
/-- Both Valid answer the same, and true for the good alone. -/
theorem valid (n : Int) (l : List E) : ∃ b : Bool, Ev (fun k => simple_Valid.f k n l) b ∧ Ev (fun k => tangramref03_Valid.f k n l) b ∧ (b = true ↔ Good n l) := by
  by_cases c1 : n < 0
  · refine ⟨false, Ev.step (f := fun _ => some false) (fun k => ?_) (Ev.now _), Ev.step (f := fun _ => some false) (fun k => ?_) (Ev.now _), ⟨fun h => (by cases h), fun h => by have := h.1; omega⟩⟩
    · simp only [simple_Valid.f, if_pos c1, simple_Valid.j0]; rfl
    · simp only [tangramref03_Valid.f, if_pos c1, tangramref03_Valid.j0]; rfl
  by_cases c2 : n > 1048576
  · refine ⟨false, Ev.step (f := fun _ => some false) (fun k => ?_) (Ev.now _), Ev.step (f := fun _ => some false) (fun k => ?_) (Ev.now _), ⟨fun h => (by cases h), fun h => by have := h.2.1; omega⟩⟩
    · simp only [simple_Valid.f, if_neg c1, if_pos c2, simple_Valid.j0]; rfl
    · simp only [tangramref03_Valid.f, if_neg c1, if_pos c2, tangramref03_Valid.j0]; rfl
  by_cases c3 : (l.length : Int) > 4194304
  · refine ⟨false, Ev.step (f := fun _ => some false) (fun k => ?_) (Ev.now _), Ev.step (f := fun _ => some false) (fun k => ?_) (Ev.now _), ⟨fun h => (by cases h), fun h => by have := h.2.2.1; omega⟩⟩
    · simp only [simple_Valid.f, if_neg c1, if_neg c2, simple_Valid.j0, decide_eq_true c3]; rfl
    · simp only [tangramref03_Valid.f, if_neg c1, if_neg c2, tangramref03_Valid.j0, decide_eq_true c3]; rfl
  obtain ⟨b, h1, h2, h3⟩ := loops (n := n) (l := l) ⟨by omega, by omega⟩ (by omega) l.length 0 (by omega) (fun j hj => by omega)
  refine ⟨b, Ev.step (fun k => ?_) h1, Ev.step (fun k => ?_) h2, h3.trans ⟨fun h => ⟨by omega, by omega, by omega, h⟩, fun h => h.2.2.2⟩⟩
  · simp only [simple_Valid.f, if_neg c1, if_neg c2, simple_Valid.j0, decide_eq_false c3]; rfl
  · simp only [tangramref03_Valid.f, if_neg c1, if_neg c2, tangramref03_Valid.j0, decide_eq_false c3]; rfl
end Go.Proofs.Ytkkhhbegeboonaa.PureV
-- Written by a program of this session (wip/tools/printx.py) over the kit's printer and texts of its own; it is no print of print.sh.

namespace Go.Proofs.Ytkkhhbegeboonaa.GAll
open Go.RowKit Go.Proofs.YtkkhhbegeboonaaW.PrintWords Go.Proofs.YtkkhhbegeboonaaW.PrintLast Go.Proofs.YtkkhhbegeboonaaW.PrintMore
attribute [local go_sem] max2_int min2_int max_two min_two max_three min_three max_four min_four   -- for this text's walks alone
set_option linter.unusedVariables false
set_option linter.unusedSimpArgs false

/-! ### tangramref11_From: function 14 -/
def tangramref11_From.f (a0_0 : Int) (l0_1 : List (S59)) (a1 : Int) : Option (Int) := if (Int.tmod a1 2) = 0 then (if 0 ≤ (wrap64 (Int.tdiv a1 2)) then (if (wrap64 (Int.tdiv a1 2)) < (l0_1.length : Int) then (some ((rd_T59 l0_1 (wrap64 (Int.tdiv a1 2))).f0)) else (none)) else (none)) else (if 0 ≤ (wrap64 (Int.tdiv a1 2)) then (if (wrap64 (Int.tdiv a1 2)) < (l0_1.length : Int) then (some ((rd_T59 l0_1 (wrap64 (Int.tdiv a1 2))).f1)) else (none)) else (none))
set_option maxHeartbeats 8000000 in
set_option maxRecDepth 100000 in
theorem tangramref11_From.calls (a0_0 : Int) (A0_1 : Option Addr) (c0_1 : Nat) (l0_1 : List (S59)) (a1 : Int) (r : Int) (w : World) (hr0_1 : Kd.C k59 w A0_1 l0_1.length l0_1) (hc0_1 : l0_1.length ≤ c0_1) (h : tangramref11_From.f a0_0 l0_1 a1 = some r) :
    Calls Try.prog 14 #[.agg #[.int .i64 a0_0, .slice A0_1 l0_1.length c0_1], .int .i64 a1] w fun e w' => e = .returned (.int .i64 r) ∧ Below w.heap.size w w' := by
  have hu24 := Try.underlying24
  have HR0_1 := Aside0.mk hr0_1
  have HC0_1 := Aside0.mk hc0_1
  clear hr0_1 hc0_1
  have HB := Aside0.mk (Below.refl w.heap.size w)
  have H : (if (Int.tmod a1 2) = 0 then (if 0 ≤ (wrap64 (Int.tdiv a1 2)) then (if (wrap64 (Int.tdiv a1 2)) < (l0_1.length : Int) then (some ((rd_T59 l0_1 (wrap64 (Int.tdiv a1 2))).f0)) else (none)) else (none)) else (if 0 ≤ (wrap64 (Int.tdiv a1 2)) then (if (wrap64 (Int.tdiv a1 2)) < (l0_1.length : Int) then (some ((rd_T59 l0_1 (wrap64 (Int.tdiv a1 2))).f1)) else (none)) else (none))) = some r := h
  clear h
  by_cases c3 : (Int.tmod a1 2) = 0
  · rw [if_pos c3] at H
    have c3b0 : ((Int.tmod a1 2) == 0) = true := beq_iff_eq.mpr c3
    have c3b1 : ((Int.tmod a1 2) != 0) = false := bne_eq_false_iff_eq.mpr c3
    clear c3
    obtain ⟨ji4, hji4⟩ : ∃ j_ : Int, (wrap64 (Int.tdiv a1 2)) = j_ := ⟨_, rfl⟩
    replace H : (if 0 ≤ (ji4) then (if (ji4) < (l0_1.length : Int) then (some ((rd_T59 l0_1 (ji4)).f0)) else (none)) else (none)) = some r := by first | (rw [hji4] at H; exact H) | (simp only [hji4] at H ⊢; exact H)
    have hji4w : (IntKind.i64.wrap (Int.tdiv a1 2)) = ji4 := (i64_w _).trans hji4
    by_cases c5 : 0 ≤ (ji4)
    · rw [if_pos c5] at H
      have c5b0 : decide (0 ≤ (ji4)) = true := decide_eq_true c5
      clear c5
      by_cases c6 : (ji4) < (l0_1.length : Int)
      · rw [if_pos c6] at H
        have c6b0 : decide ((ji4) < (l0_1.length : Int)) = true := decide_eq_true c6
        clear c6
        obtain rfl := Option.some.inj H
        go_enter Try.func14, Try.ntmps14
        go_wp2_with (first | ((with_reducible refine gate_dst (N := 2) rfl ?_); refine box_event ?hg (N := 2) ?hd (cs := #[.int .i64 a0_0, .slice A0_1 l0_1.length c0_1]) (t := 24) ?hr ?_; (case hd => rfl); (case hg => rfl); (case hr => first | (go_simp; done) | (go_simp; rfl)); intro gb147 hg w7 hbox hb; have n0_ := Aside0.mk (below_step (by repeat (first | (with_reducible first | exact HB.out | apply below_alloc | apply pw_below_drewN | apply below_drew1) | exact HB.out)) hb); have n1_ := Aside0.mk (hbox); have n2_ := Aside0.mk ((by rw [hg]; exact (below_size (by repeat (first | (with_reducible first | exact HB.out | apply below_alloc | apply pw_below_drewN | apply below_drew1) | exact HB.out))) : w.heap.size ≤ gb147)); have n3_ := Aside0.mk ((by rw [hg]; exact (below_size (by repeat (first | (with_reducible first | exact HB.out | apply below_alloc | apply pw_below_drewN | apply below_drew1) | exact HB.out))) : w.heap.size ≤ gb147)); clear HB; have HB := n0_; have BK147 := n1_; have GW147 := n2_; have GE147 := n3_; clear n0_ n1_ n2_ n3_; clear hb hbox hg; have hcz8_0 : w7.cell? ⟨gb147, 0, none⟩ = some (.int .i64 a0_0) := (blk_cell BK147.out 0).trans rfl; have hcz8_1 : w7.cell? ⟨gb147, 1, none⟩ = some (.slice A0_1 l0_1.length c0_1) := (blk_cell BK147.out 1).trans rfl; have hfz8_0 := blk_frozen BK147.out 0; have hfz8_1 := blk_frozen BK147.out 1; have p148 : 0 ≤ ((ji4) : Int) := of_decide_eq_true (by first | (with_reducible assumption) | assumption); have q148 : (ji4) < (l0_1.length : Int) := of_decide_eq_true (by first | (with_reducible assumption) | assumption); obtain ⟨ad148, e148, hx148_0, hx148_1⟩ := at_T59 HR0_1.out (ji4) p148 q148; cases e148; replace hx148_0 := (HB.out.cell (World.block_lt_of_cell? w _ hx148_0)).trans hx148_0; replace hx148_1 := (HB.out.cell (World.block_lt_of_cell? w _ hx148_1)).trans hx148_1; replace p148 := eq_true p148; replace q148 := eq_true q148))
        go_ret
        exact ⟨by first | rfl | (simp [errW_none, errW_some] <;> rfl) | (simp only [← hji4]; first | rfl | (simp [errW_none, errW_some] <;> rfl)) | (simp [*, errW_none, errW_some] <;> rfl), by repeat (first | (with_reducible first | exact HB.out | apply below_alloc | apply pw_below_drewN | apply below_drew1 | refine below_set ?_ GE147.out) | exact HB.out)⟩
      · rw [if_neg c6] at H
        exact absurd H (by simp)
    · rw [if_neg c5] at H
      exact absurd H (by simp)
  · rw [if_neg c3] at H
    have c3b0 : ((Int.tmod a1 2) == 0) = false := beq_eq_false_iff_ne.mpr c3
    have c3b1 : ((Int.tmod a1 2) != 0) = true := bne_iff_ne.mpr c3
    obtain ⟨ji9, hji9⟩ : ∃ j_ : Int, (wrap64 (Int.tdiv a1 2)) = j_ := ⟨_, rfl⟩
    replace H : (if 0 ≤ (ji9) then (if (ji9) < (l0_1.length : Int) then (some ((rd_T59 l0_1 (ji9)).f1)) else (none)) else (none)) = some r := by first | (rw [hji9] at H; exact H) | (simp only [hji9] at H ⊢; exact H)
    have hji9w : (IntKind.i64.wrap (Int.tdiv a1 2)) = ji9 := (i64_w _).trans hji9
    by_cases c10 : 0 ≤ (ji9)
    · rw [if_pos c10] at H
      have c10b0 : decide (0 ≤ (ji9)) = true := decide_eq_true c10
      clear c10
      by_cases c11 : (ji9) < (l0_1.length : Int)
      · rw [if_pos c11] at H
        have c11b0 : decide ((ji9) < (l0_1.length : Int)) = true := decide_eq_true c11
        clear c11
        obtain rfl := Option.some.inj H
        go_enter Try.func14, Try.ntmps14
        go_wp2_with (first | ((with_reducible refine gate_dst (N := 2) rfl ?_); refine box_event ?hg (N := 2) ?hd (cs := #[.int .i64 a0_0, .slice A0_1 l0_1.length c0_1]) (t := 24) ?hr ?_; (case hd => rfl); (case hg => rfl); (case hr => first | (go_simp; done) | (go_simp; rfl)); intro gb147 hg w12 hbox hb; have n0_ := Aside0.mk (below_step (by repeat (first | (with_reducible first | exact HB.out | apply below_alloc | apply pw_below_drewN | apply below_drew1) | exact HB.out)) hb); have n1_ := Aside0.mk (hbox); have n2_ := Aside0.mk ((by rw [hg]; exact (below_size (by repeat (first | (with_reducible first | exact HB.out | apply below_alloc | apply pw_below_drewN | apply below_drew1) | exact HB.out))) : w.heap.size ≤ gb147)); have n3_ := Aside0.mk ((by rw [hg]; exact (below_size (by repeat (first | (with_reducible first | exact HB.out | apply below_alloc | apply pw_below_drewN | apply below_drew1) | exact HB.out))) : w.heap.size ≤ gb147)); clear HB; have HB := n0_; have BK147 := n1_; have GW147 := n2_; have GE147 := n3_; clear n0_ n1_ n2_ n3_; clear hb hbox hg; have hcz13_0 : w12.cell? ⟨gb147, 0, none⟩ = some (.int .i64 a0_0) := (blk_cell BK147.out 0).trans rfl; have hcz13_1 : w12.cell? ⟨gb147, 1, none⟩ = some (.slice A0_1 l0_1.length c0_1) := (blk_cell BK147.out 1).trans rfl; have hfz13_0 := blk_frozen BK147.out 0; have hfz13_1 := blk_frozen BK147.out 1; have p149 : 0 ≤ ((ji9) : Int) := of_decide_eq_true (by first | (with_reducible assumption) | assumption); have q149 : (ji9) < (l0_1.length : Int) := of_decide_eq_true (by first | (with_reducible assumption) | assumption); obtain ⟨ad149, e149, hx149_0, hx149_1⟩ := at_T59 HR0_1.out (ji9) p149 q149; cases e149; replace hx149_0 := (HB.out.cell (World.block_lt_of_cell? w _ hx149_0)).trans hx149_0; replace hx149_1 := (HB.out.cell (World.block_lt_of_cell? w _ hx149_1)).trans hx149_1; replace p149 := eq_true p149; replace q149 := eq_true q149))
        go_ret
        exact ⟨by first | rfl | (simp [errW_none, errW_some] <;> rfl) | (simp only [← hji9]; first | rfl | (simp [errW_none, errW_some] <;> rfl)) | (simp [*, errW_none, errW_some] <;> rfl), by repeat (first | (with_reducible first | exact HB.out | apply below_alloc | apply pw_below_drewN | apply below_drew1 | refine below_set ?_ GE147.out) | exact HB.out)⟩
      · rw [if_neg c11] at H
        exact absurd H (by simp)
    · rw [if_neg c10] at H
      exact absurd H (by simp)

end Go.Proofs.Ytkkhhbegeboonaa.GAll
/- DERIVED. Rotations: what the printed forms of Degrees, Check, Next, From tell of a good graph. No program. -/




namespace Go.Proofs.Ytkkhhbegeboonaa.Rot
open Go.RowKit Go.Proofs.YtkkhhbegeboonaaW.PrintWords Go.Proofs.YtkkhhbegeboonaaW.PrintLast Go.Proofs.YtkkhhbegeboonaaW.PrintMore Go.Proofs.Ytkkhhbegeboonaa.GAll Go.Proofs.Ytkkhhbegeboonaa.Mem
set_option linter.unusedVariables false
set_option linter.unusedSimpArgs false
abbrev Ed := PureV.E
def ends (l : List Ed) : List (Int × Int) := l.map fun x => (x.f0, x.f1)
theorem ends_length (l : List Ed) : (ends l).length = l.length := List.length_map ..
def frs (l : List Ed) : List Int := froms (ends l)
theorem frs_length (l : List Ed) : (frs l).length = 2 * l.length := by unfold frs; rw [froms_length, ends_length]
theorem froms_even : ∀ (es : List (Int × Int)) (i : Nat), i < es.length → gi (froms es) (2 * i) = (pe es i).1 ∧ gi (froms es) (2 * i + 1) = (pe es i).2
  | [], i, h => absurd h (by simp)
  | e :: es, 0, h => ⟨rfl, rfl⟩
  | e :: es, i + 1, h => froms_even es i (by simpa using h)
theorem pe_ends {l : List Ed} {i : Nat} (h : i < l.length) : pe (ends l) i = ((PureV.rdE l (i : Nat)).f0, (PureV.rdE l (i : Nat)).f1) := by
  have e : PureV.rdE l (i : Nat) = l[i] := by
    show l.getD ((i : Int).toNat) _ = _
    rw [Int.toNat_natCast, List.getD_eq_getElem?_getD, List.getElem?_eq_getElem h]
    rfl
  rw [e]
  unfold pe ends
  simp [List.getD_eq_getElem?_getD, h]
theorem frs_even {l : List Ed} {i : Nat} (h : i < l.length) : gi (frs l) (2 * i) = (PureV.rdE l (i : Nat)).f0 := by
  have := (froms_even (ends l) i (by rw [ends_length]; exact h)).1
  rw [pe_ends h] at this; exact this
theorem frs_odd {l : List Ed} {i : Nat} (h : i < l.length) : gi (frs l) (2 * i + 1) = (PureV.rdE l (i : Nat)).f1 := by
  have := (froms_even (ends l) i (by rw [ends_length]; exact h)).2
  rw [pe_ends h] at this; exact this
theorem frs_range {n : Int} {l : List Ed} (hg : PureV.Good n l) {h : Nat} (hh : h < 2 * l.length) : 0 ≤ gi (frs l) h ∧ gi (frs l) h < n := by
  have hi : h / 2 < l.length := by omega
  obtain ⟨⟨a, b, c⟩, _⟩ := hg.2.2.2 (h / 2) hi
  rcases Nat.mod_two_eq_zero_or_one h with e | e
  · have e2 : h = 2 * (h / 2) := by omega
    rw [e2, frs_even hi]; omega
  · have e2 : h = 2 * (h / 2) + 1 := by omega
    rw [e2, frs_odd hi]; omega
theorem from_f {n : Int} {l : List Ed} {h : Nat} (hl : l.length ≤ 4194304) (hh : h < 2 * l.length) : tangramref11_From.f n l (h : Int) = some (gi (frs l) h) := by
  have hi : h / 2 < l.length := by omega
  have e1 : Int.tmod (h : Int) 2 = ((h % 2 : Nat) : Int) := rfl
  have e2 : wrap64 (Int.tdiv (h : Int) 2) = ((h / 2 : Nat) : Int) := by
    have : Int.tdiv (h : Int) 2 = ((h / 2 : Nat) : Int) := rfl
    rw [this, IntWalk.wrap64_in _ (by omega)]
  unfold tangramref11_From.f
  rw [e1, e2]
  have c1 : (0 : Int) ≤ ((h / 2 : Nat) : Int) := by omega
  have c2 : ((h / 2 : Nat) : Int) < (l.length : Int) := by omega
  rcases Nat.mod_two_eq_zero_or_one h with e | e
  · have e3 : h = 2 * (h / 2) := by omega
    have q := frs_even hi
    rw [← e3] at q
    rw [if_pos (by omega), if_pos c1, if_pos c2, q]
  · have e3 : h = 2 * (h / 2) + 1 := by omega
    have q := frs_odd hi
    rw [← e3] at q
    rw [if_neg (by omega), if_pos c1, if_pos c2, q]
/-- how many of the first half-edges leave a vertex -/
def cnt (fr : List Int) (m : Nat) (v : Int) : Nat := ((List.range m).filter fun j => gi fr j == v).length
theorem cnt_le (fr : List Int) (m : Nat) (v : Int) : cnt fr m v ≤ m := by
  have := List.length_filter_le (fun j => gi fr j == v) (List.range m)
  rw [List.length_range] at this
  exact this
theorem cnt_succ (fr : List Int) (m : Nat) (v : Int) : cnt fr (m + 1) v = cnt fr m v + if gi fr m = v then 1 else 0 := by
  unfold cnt
  rw [List.range_succ, List.filter_append, List.length_append]
  congr 1
  by_cases h : gi fr m = v
  · rw [if_pos h]; simp [h]
  · rw [if_neg h]; simp [h]
theorem leaving_cnt (fr : List Int) (v : Nat) : (leaving fr v).length = cnt fr fr.length v := by unfold leaving cnt; rw [List.length_map]
theorem cnt_put {fr : List Int} {n m : Nat} {ds : List Int} {x : Int} (hx : gi fr m = x) (h0 : 0 ≤ x) (h1 : x < n) (hl : ds.length = n) (hm : m ≤ 9000000) (h : ∀ v, v < n → gi ds v = (cnt fr m v : Int)) :
    ∀ v, v < n → gi (ds.set x.toNat (wrap64 (rd ds x + 1))) v = (cnt fr (m + 1) v : Int) := by
  intro v hv
  obtain ⟨y, rfl⟩ := Int.eq_ofNat_of_zero_le h0
  have hy : y < n := by omega
  have hc := cnt_le fr m y
  rw [gi_rd, h y hy, IntWalk.wrap64_in _ (by omega), gi_set, cnt_succ, Int.toNat_natCast, hx, hl]
  by_cases e : y = v
  · subst e
    rw [if_pos ⟨rfl, hv⟩, if_pos rfl]; omega
  · rw [if_neg (fun q => e q.1), if_neg (by omega), h v hv]; omega
theorem degrees_loop {n : Nat} {l : List Ed} (hg : PureV.Good (n : Int) l) (d : Nat) : ∀ (i : Nat) (ds : List Int), i + d = l.length → ds.length = n → (∀ v, v < n → gi ds v = (cnt (frs l) (2 * i) v : Int)) →
    ∃ ds', Ev (fun k => simple_Degrees.l0 k ds l (l.length : Int) (i : Int)) (ds', 0) ∧ ds'.length = n ∧ ∀ v, v < n → gi ds' v = (cnt (frs l) (2 * l.length) v : Int) := by
  induction d with
  | zero =>
    intro i ds hi hl hv
    refine ⟨ds, Ev.step (f := fun _ => some (ds, 0)) (fun k => ?_) (Ev.now _), hl, fun v h => ?_⟩
    · simp only [simple_Degrees.l0]
      rw [if_neg (by omega)]
    · rw [hv v h, show i = l.length by omega]
  | succ d ih =>
    intro i ds hi hl hv
    have hll := hg.2.2.1
    obtain ⟨⟨a, b, c⟩, _⟩ := hg.2.2.2 i (by omega)
    have h1 := cnt_put (n := n) (m := 2 * i) (fr := frs l) (ds := ds) (frs_even (l := l) (i := i) (by omega)) a (by omega) hl (by omega) hv
    have h2 := cnt_put (n := n) (fr := frs l) (m := 2 * i + 1) (frs_odd (l := l) (i := i) (by omega)) (by omega) c (by rw [List.length_set]; exact hl) (by omega) h1
    obtain ⟨ds', e1, e2, e3⟩ := ih (i + 1) _ (by omega) (List.length_set.trans (List.length_set.trans hl)) h2
    refine ⟨ds', Ev.step (fun k => ?_) e1, e2, e3⟩
    simp only [simple_Degrees.l0]
    rw [if_pos (by omega), if_pos (show (0 : Int) ≤ (i : Int) by omega), if_pos (show (i : Int) < (l.length : Int) by omega)]
    change (if 0 ≤ (PureV.rdE l (i : Nat)).f0 then _ else _) = _
    rw [if_pos a]
    change (if (PureV.rdE l (i : Nat)).f0 < (ds.length : Int) then _ else _) = _
    rw [if_pos (by omega), Option.bind_some]
    change (if 0 ≤ (PureV.rdE l (i : Nat)).f1 then _ else _) = _
    rw [if_pos (by omega)]
    change (if (PureV.rdE l (i : Nat)).f1 < (ds.length : Int) then _ else _) = _
    rw [if_pos (by omega), PureV.wadd (i := i) (by omega)]
theorem degrees_ev {n : Nat} {l : List Ed} (hg : PureV.Good (n : Int) l) (hv : Ev (fun k => simple_Valid.f k (n : Int) l) true) :
    ∃ ds, Ev (fun k => simple_Degrees.f k (n : Int) l) (ds, 0) ∧ ds.length = n ∧ ∀ v, v < n → gi ds v = ((leaving (frs l) v).length : Int) := by
  obtain ⟨ds, e1, e2, e3⟩ := degrees_loop hg l.length 0 (List.replicate n 0) (by omega) (by simp) (fun v h => by
    unfold gi cnt
    simp [List.getD_eq_getElem?_getD, List.getElem?_replicate, h])
  refine ⟨ds, ?_, e2, fun v h => by rw [e3 v h, leaving_cnt, frs_length]⟩
  unfold simple_Degrees.f
  refine Ev.bind hv ?_
  have := hg.2.1
  refine Ev.congr (fun k => ?_) e1
  rw [if_pos rfl, if_pos (by omega), if_pos (by omega)]
  rfl
/-- the check, of any graph and lists -/
theorem check_no {n : Int} {l : List Ed} {r : List (List Int)} (hv : Ev (fun k => simple_Valid.f k n l) false) : Ev (fun k => rot_Check.f k n l r) (0, 1) := by
  unfold rot_Check.f
  refine Ev.bind hv ?_
  exact Ev.congr (fun k => if_neg (by decide)) (Ev.now _)
theorem check_len {n : Int} {l : List Ed} {r : List (List Int)} (hv : Ev (fun k => simple_Valid.f k n l) true) (h : (r.length : Int) ≠ n) : Ev (fun k => rot_Check.f k n l r) (0, 110) := by
  unfold rot_Check.f
  refine Ev.bind hv ?_
  exact Ev.congr (fun k => by rw [if_pos rfl, if_neg h]) (Ev.now _)
theorem check_all {n : Nat} {l : List Ed} {r : List (List Int)} (hg : PureV.Good (n : Int) l) (hv : Ev (fun k => simple_Valid.f k (n : Int) l) true) (h : r.length = n) {ds : List Int} (hd : Ev (fun k => simple_Degrees.f k (n : Int) l) (ds, 0)) (hl : ds.length = n) :
    Ev (fun k => rot_Check.f k (n : Int) l r) (rows (frs l) ds 0 r (List.replicate (frs l).length false)) := by
  unfold rot_Check.f
  refine Ev.bind hv ?_
  refine Ev.congr (f := fun k => (simple_Degrees.f k (n : Int) l).bind fun d => rot_Check.told n l r d) (fun k => by rw [if_pos rfl, if_pos (by omega)]) ?_
  refine Ev.bind hd ?_
  refine Ev.congr (fun k => ?_) (Ev.now _)
  have h1 := hg.2.1
  have h2 := hg.2.2.1
  unfold rot_Check.told
  rw [if_pos ⟨by omega, h1, h2, by simp only; omega, rfl⟩, frs_length]
  rfl
theorem check_ev (n : Int) (l : List Ed) (r : List (List Int)) : ∃ res, Ev (fun k => rot_Check.f k n l r) res ∧ (res.2 = 0 → res = (0, 0)) ∧ (res.2 = 0 ↔ ∃ N : Nat, n = N ∧ PureV.Good n l ∧ IsRot (frs l) N r) := by
  obtain ⟨b, hb, _, hg⟩ := PureV.valid n l
  cases b with
  | false =>
    refine ⟨_, check_no hb, fun h => by simp at h, ⟨fun h => by simp at h, ?_⟩⟩
    rintro ⟨N, rfl, h, _⟩
    exact absurd (hg.2 h) (by decide)
  | true =>
    have hG := hg.1 rfl
    by_cases hl : (r.length : Int) = n
    · obtain ⟨N, rfl⟩ := Int.eq_ofNat_of_zero_le hG.1
      have hl2 : r.length = N := by omega
      obtain ⟨ds, hd, h1, h2⟩ := degrees_ev hG hb
      have hz := rows_zero (frs l) ds r 0 (List.replicate (frs l).length false)
      refine ⟨_, check_all hG hb hl2 hd h1, fun h => hz.resolve_right (fun q => q h), ?_⟩
      constructor
      · intro h
        exact ⟨N, rfl, hG, (isRot_of hl2 h2).1 (hz.resolve_right (fun q => q h))⟩
      · rintro ⟨M, e, _, h⟩
        obtain rfl : N = M := by omega
        rw [(isRot_of hl2 h2).2 h]
    · refine ⟨_, check_len hb hl, fun h => by simp at h, ⟨fun h => by simp at h, ?_⟩⟩
      rintro ⟨N, rfl, _, h⟩
      exact absurd h.len (by omega)
/-- what Next answers -/
def NextOf (r : List (List Int)) (m : Nat) (nx : List Int) : Prop := nx.length = m ∧ ∀ v, v < r.length → ∀ j, j < (gl r v).length → gi nx (gi (gl r v) j).toNat = gi (gl r v) ((j + 1) % (gl r v).length)
theorem gi_mem {l : List Int} {j : Nat} (h : j < l.length) : gi l j ∈ l := by
  unfold gi
  rw [List.getD_eq_getElem?_getD, List.getElem?_eq_getElem h]
  exact List.getElem_mem h
theorem mem_gi {l : List Int} {x : Int} (h : x ∈ l) : ∃ j, j < l.length ∧ gi l j = x := by
  obtain ⟨j, hj, e⟩ := List.getElem_of_mem h
  exact ⟨j, hj, by unfold gi; rw [List.getD_eq_getElem?_getD, List.getElem?_eq_getElem hj]; exact e⟩
theorem gi_inj {l : List Int} (hn : l.Nodup) {i j : Nat} (hi : i < l.length) (hj : j < l.length) (e : gi l i = gi l j) : i = j := by
  unfold gi at e
  rw [List.getD_eq_getElem?_getD, List.getD_eq_getElem?_getD, List.getElem?_eq_getElem hi, List.getElem?_eq_getElem hj, Option.getD_some, Option.getD_some] at e
  rcases Nat.lt_trichotomy i j with q | q | q
  · exact absurd e (List.pairwise_iff_getElem.1 hn i j hi hj q)
  · exact q
  · exact absurd e.symm (List.pairwise_iff_getElem.1 hn j i hj hi q)
section
variable {fr : List Int} {n : Nat} {r : List (List Int)}
theorem IsRot.at (h : IsRot fr n r) {v j : Nat} (hv : v < n) (hj : j < (gl r v).length) : 0 ≤ gi (gl r v) j ∧ gi (gl r v) j < (fr.length : Int) ∧ gi fr (gi (gl r v) j).toNat = v := leaves_iff.1 ((h.mem v hv _).1 (gi_mem hj))
theorem IsRot.place (h : IsRot fr n r) (hf : ∀ x, x < fr.length → 0 ≤ gi fr x ∧ gi fr x < n) {x : Nat} (hx : x < fr.length) : ∃ v j, v < n ∧ gi fr x = (v : Int) ∧ j < (gl r v).length ∧ gi (gl r v) j = (x : Int) := by
  obtain ⟨h0, h1⟩ := hf x hx
  obtain ⟨v, hv⟩ := Int.eq_ofNat_of_zero_le h0
  have hvn : v < n := by omega
  obtain ⟨j, hj, e⟩ := mem_gi ((h.mem v hvn (x : Int)).2 (leaves_iff.2 ⟨by omega, by omega, by rw [Int.toNat_natCast]; exact hv⟩))
  exact ⟨v, j, hvn, hv, hj, e⟩
theorem IsRot.inj (h : IsRot fr n r) {u v i j : Nat} (hu : u < n) (hv : v < n) (hi : i < (gl r u).length) (hj : j < (gl r v).length) (e : (gi (gl r u) i).toNat = (gi (gl r v) j).toNat) : u = v ∧ i = j := by
  obtain ⟨a1, a2, a3⟩ := h.at hu hi
  obtain ⟨b1, b2, b3⟩ := h.at hv hj
  obtain rfl : u = v := by rw [e, b3] at a3; omega
  exact ⟨rfl, gi_inj (h.nodup u hu) hi hj (by omega)⟩
end
theorem tmod_nat (a b : Nat) : Int.tmod (a : Int) (b : Int) = ((a % b : Nat) : Int) := rfl
theorem next_row {fr : List Int} {n : Nat} {r : List (List Int)} (h : IsRot fr n r) (hf : fr.length ≤ 8388608) (hn : n ≤ 1048576) {v : Nat} (hv : v < n) (d : Nat) : ∀ (i : Nat) (nx : List Int), i + d = (gl r v).length → nx.length = fr.length →
    (∀ u j, u < n → j < (gl r u).length → (u < v ∨ (u = v ∧ j < i)) → gi nx (gi (gl r u) j).toNat = gi (gl r u) ((j + 1) % (gl r u).length)) →
    ∃ nx', (nx'.length = fr.length ∧ ∀ u j, u < n → j < (gl r u).length → u < v + 1 → gi nx' (gi (gl r u) j).toNat = gi (gl r u) ((j + 1) % (gl r u).length)) ∧
      ∀ res, Ev (fun k => rot_Next.l0 k nx' r (r.length : Int) ((v + 1 : Nat) : Int)) res → Ev (fun k => rot_Next.l1 k nx (gl r v) r (r.length : Int) (v : Int) (gl r v) ((gl r v).length : Int) (i : Int)) res := by
  have hlen : (gl r v).length ≤ fr.length := by
    have := nodup_subset (gl r v) (leaving fr v) (h.nodup v hv) (fun x hx => mem_leaving.2 ((h.mem v hv x).1 hx))
    have h2 := cnt_le fr fr.length v
    rw [leaving_cnt] at this
    omega
  induction d with
  | zero =>
    intro i nx hi hl hp
    refine ⟨nx, ⟨hl, fun u j hu hj huv => hp u j hu hj (by
      rcases Nat.lt_succ_iff_lt_or_eq.1 huv with q | rfl
      · exact .inl q
      · exact .inr ⟨rfl, by omega⟩)⟩, fun res hr => Ev.step (fun k => ?_) hr⟩
    simp only [rot_Next.l1]
    rw [if_neg (by omega), PureV.wadd (i := v) (by omega)]
  | succ d ih =>
    intro i nx hi hl hp
    obtain ⟨a1, a2, a3⟩ := h.at hv (show i < (gl r v).length by omega)
    obtain ⟨nx', h1, h2⟩ := ih (i + 1) (nx.set (gi (gl r v) i).toNat (gi (gl r v) ((i + 1) % (gl r v).length))) (by omega) (List.length_set.trans hl) (fun u j hu hj huv => by
      rw [gi_set]
      by_cases e : (gi (gl r v) i).toNat = (gi (gl r u) j).toNat
      · obtain ⟨rfl, rfl⟩ := h.inj hv hu (by omega) hj e
        rw [if_pos ⟨rfl, by omega⟩]
      · rw [if_neg (fun q => e q.1)]
        refine hp u j hu hj ?_
        rcases huv with q | ⟨rfl, q⟩
        · exact .inl q
        · refine .inr ⟨rfl, ?_⟩
          rcases Nat.lt_succ_iff_lt_or_eq.1 q with q | rfl
          · exact q
          · exact absurd rfl e)
    refine ⟨nx', h1, fun res hr => Ev.step (fun k => ?_) (h2 res hr)⟩
    have hm := Nat.mod_lt (i + 1) (show 0 < (gl r v).length by omega)
    simp only [rot_Next.l1]
    rw [PureV.wadd (i := i) (by omega), tmod_nat, gi_rd, gi_rd, if_pos (by omega), if_pos (by omega), if_pos (by omega), if_neg (by omega), if_pos (by omega), if_pos (by omega), if_pos (by omega), if_pos (by omega)]
theorem next_loop {fr : List Int} {n : Nat} {r : List (List Int)} (h : IsRot fr n r) (hf : fr.length ≤ 8388608) (hn : n ≤ 1048576) (d : Nat) : ∀ (v : Nat) (nx : List Int), v + d = n → nx.length = fr.length →
    (∀ u j, u < n → j < (gl r u).length → u < v → gi nx (gi (gl r u) j).toNat = gi (gl r u) ((j + 1) % (gl r u).length)) →
    ∃ nx', Ev (fun k => rot_Next.l0 k nx r (r.length : Int) (v : Int)) (nx', 0) ∧ NextOf r fr.length nx' := by
  induction d with
  | zero =>
    intro v nx hv hl hp
    refine ⟨nx, Ev.step (f := fun _ => some (nx, 0)) (fun k => ?_) (Ev.now _), hl, fun u hu j hj => hp u j (by rw [← h.len]; exact hu) hj (by have := h.len; omega)⟩
    simp only [rot_Next.l0]
    rw [if_neg (by have := h.len; omega)]
  | succ d ih =>
    intro v nx hv hl hp
    obtain ⟨nx1, ⟨h1, h2⟩, h3⟩ := next_row h hf hn (show v < n by omega) (gl r v).length 0 nx (by omega) hl (fun u j hu hj q => hp u j hu hj (by omega))
    obtain ⟨nx2, h4, h5⟩ := ih (v + 1) nx1 (by omega) h1 (fun u j hu hj q => h2 u j hu hj q)
    refine ⟨nx2, Ev.step (fun k => ?_) (h3 _ h4), h5⟩
    simp only [rot_Next.l0]
    have := h.len
    rw [if_pos (by omega), if_pos (by omega), if_pos (by omega)]
    rfl
theorem next_no {n : Int} {l : List Ed} {r : List (List Int)} {res : Int × Int} (h : Ev (fun k => rot_Check.f k n l r) res) (h0 : res.2 ≠ 0) : Ev (fun k => rot_Next.f k n l r) ([], res.2) := by
  unfold rot_Next.f
  refine Ev.bind h ?_
  exact Ev.congr (fun k => if_neg h0) (Ev.now _)
theorem next_ev {n : Nat} {l : List Ed} {r : List (List Int)} (hg : PureV.Good (n : Int) l) (hr : IsRot (frs l) n r) (h : Ev (fun k => rot_Check.f k (n : Int) l r) (0, 0)) : ∃ nx, Ev (fun k => rot_Next.f k (n : Int) l r) (nx, 0) ∧ NextOf r (2 * l.length) nx := by
  have h1 := hg.2.1
  have h2 := hg.2.2.1
  have hl := frs_length l
  obtain ⟨nx, e1, e2⟩ := next_loop hr (by omega) (by omega) n 0 (List.replicate (2 * l.length) 0) (by omega) (by simp [hl]) (fun u j _ _ q => absurd q (by omega))
  rw [hl] at e2
  refine ⟨nx, ?_, e2⟩
  unfold rot_Next.f
  refine Ev.bind h ?_
  refine Ev.congr (fun k => ?_) e1
  rw [if_pos rfl, IntWalk.wrap64_in _ (by omega), if_pos (by omega), if_pos (by omega), show (2 * (l.length : Int)).toNat = 2 * l.length by omega]
  rfl
end Go.Proofs.Ytkkhhbegeboonaa.Rot
/- DERIVED. Lists of lists: the document's Alike and Equal. No program. -/


namespace Go.Proofs.Ytkkhhbegeboonaa.Rot
open Go.RowKit Go.Proofs.YtkkhhbegeboonaaW.PrintWords Go.Proofs.YtkkhhbegeboonaaW.PrintLast Go.Proofs.YtkkhhbegeboonaaW.PrintMore Go.Proofs.Ytkkhhbegeboonaa.GAll Go.Proofs.Ytkkhhbegeboonaa.Mem
set_option linter.unusedVariables false
set_option linter.unusedSimpArgs false
theorem w1 {i : Nat} (h : i < 9223372036854775807) : wrap64 ((i : Int) + 1) = ((i + 1 : Nat) : Int) := by rw [IntWalk.wrap64_in _ (by omega)]; omega
theorem rd_L {r : List (List Int)} (i : Nat) : rd_L4 r (i : Int) = gl r i := by unfold gl; show r.getD (i : Int).toNat [] = _; rw [Int.toNat_natCast]
theorem gi_get {l : List Int} {i : Nat} (h : i < l.length) : gi l i = l[i] := by unfold gi; rw [List.getD_eq_getElem?_getD, List.getElem?_eq_getElem h]; rfl
theorem gl_get {r : List (List Int)} {i : Nat} (h : i < r.length) : gl r i = r[i] := by unfold gl; rw [List.getD_eq_getElem?_getD, List.getElem?_eq_getElem h]; rfl
theorem gl_mem {r : List (List Int)} {i : Nat} (h : i < r.length) : gl r i ∈ r := by rw [gl_get h]; exact List.getElem_mem h
theorem alike_ev {a b : List Int} (hm : a.length ≤ 9223372036854775807) : Ev (fun k => tangramref11_Alike.f k a b) (decide (a = b)) := by
  by_cases h : a.length = b.length
  · have loop : ∀ (d i : Nat), i + d = a.length → a.take i = b.take i → Ev (fun k => tangramref11_Alike.l0 k a b (i : Int)) (decide (a = b)) := by
      intro d
      induction d with
      | zero =>
        intro i hi ht
        rw [List.take_of_length_le (by omega), List.take_of_length_le (by omega)] at ht
        rw [decide_eq_true ht]
        refine Ev.step (f := fun _ => some true) (fun k => ?_) (Ev.now _)
        simp only [tangramref11_Alike.l0]
        rw [if_neg (by omega)]
      | succ d ih =>
        intro i hi ht
        have hx : i < a.length := by omega
        have hy : i < b.length := by omega
        by_cases e : a[i] = b[i]
        · refine Ev.step (fun k => ?_) (ih (i + 1) (by omega) (by rw [List.take_succ_eq_append_getElem hx, List.take_succ_eq_append_getElem hy, ht, e]))
          simp only [tangramref11_Alike.l0]
          rw [if_pos (by omega), if_pos (by omega), if_pos (by omega), gi_rd, gi_rd, gi_get hx, gi_get hy, if_pos e, w1 (by omega)]
        · rw [decide_eq_false (by rintro rfl; exact e rfl)]
          refine Ev.step (f := fun _ => some false) (fun k => ?_) (Ev.now _)
          simp only [tangramref11_Alike.l0]
          rw [if_pos (by omega), if_pos (by omega), if_pos (by omega), gi_rd, gi_rd, gi_get hx, gi_get hy, if_neg e]
    have := loop a.length 0 (by omega) rfl
    unfold tangramref11_Alike.f
    exact Ev.congr (fun k => if_pos (by omega)) this
  · rw [decide_eq_false (fun e => h (by rw [e]))]
    unfold tangramref11_Alike.f
    exact Ev.congr (fun k => if_neg (by omega)) (Ev.now _)
/-- a list of lists that is no longer than what comes in -/
def Small (r : List (List Int)) : Prop := r.length * 24 ≤ 140737488351232 ∧ ∀ l ∈ r, l.length * 8 ≤ 140737488351232
theorem Small.at {r : List (List Int)} (h : Small r) {i : Nat} (hi : i < r.length) : (gl r i).length * 8 ≤ 140737488351232 := h.2 _ (gl_mem hi)
theorem equal_ev {x y : List (List Int)} (hx : Small x) : Ev (fun k => tangramref11_Equal.f k x y) (decide (x = y)) := by
  have h1 := hx.1
  by_cases h : x.length = y.length
  · have loop : ∀ (d i : Nat), i + d = x.length → x.take i = y.take i → Ev (fun k => tangramref11_Equal.l0 k x y (i : Int)) (decide (x = y)) := by
      intro d
      induction d with
      | zero =>
        intro i hi ht
        rw [List.take_of_length_le (by omega), List.take_of_length_le (by omega)] at ht
        rw [decide_eq_true ht]
        refine Ev.step (f := fun _ => some true) (fun k => ?_) (Ev.now _)
        simp only [tangramref11_Equal.l0]
        rw [if_neg (by omega)]
      | succ d ih =>
        intro i hi ht
        have hxl : i < x.length := by omega
        have hyl : i < y.length := by omega
        have ha := alike_ev (a := gl x i) (b := gl y i) (by have := hx.at hxl; omega)
        by_cases e : gl x i = gl y i
        · rw [decide_eq_true e] at ha
          have hI := ih (i + 1) (by omega) (by rw [List.take_succ_eq_append_getElem hxl, List.take_succ_eq_append_getElem hyl, ht, ← gl_get hxl, ← gl_get hyl, e])
          refine Ev.step (f := fun k => (tangramref11_Alike.f k (gl x i) (gl y i)).bind fun t => if t = true then tangramref11_Equal.l0 k x y ((i + 1 : Nat) : Int) else some false) (fun k => ?_) (Ev.bind ha (Ev.congr (fun k => if_pos rfl) hI))
          simp only [tangramref11_Equal.l0]
          rw [if_pos (by omega), if_pos (by omega), if_pos (by omega), rd_L, rd_L, w1 (by omega)]
        · rw [decide_eq_false e] at ha
          rw [decide_eq_false (by rintro rfl; exact e rfl)]
          refine Ev.step (f := fun k => (tangramref11_Alike.f k (gl x i) (gl y i)).bind fun t => if t = true then tangramref11_Equal.l0 k x y ((i + 1 : Nat) : Int) else some false) (fun k => ?_) (Ev.bind ha (Ev.congr (fun k => if_neg (by decide)) (Ev.now _)))
          simp only [tangramref11_Equal.l0]
          rw [if_pos (by omega), if_pos (by omega), if_pos (by omega), rd_L, rd_L, w1 (by omega)]
    have := loop x.length 0 (by omega) rfl
    unfold tangramref11_Equal.f
    exact Ev.congr (fun k => if_pos (by omega)) this
  · rw [decide_eq_false (fun e => h (by rw [e]))]
    unfold tangramref11_Equal.f
    exact Ev.congr (fun k => if_neg (by omega)) (Ev.now _)
theorem gi_ext {a b : List Int} (hl : a.length = b.length) (h : ∀ p, p < a.length → gi a p = gi b p) : a = b := by
  refine List.ext_getElem hl fun p h1 h2 => ?_
  rw [← gi_get h1, ← gi_get h2]
  exact h p h1
end Go.Proofs.Ytkkhhbegeboonaa.Rot
-- Written by a program of this session (wip/tools/printx.py) over the kit's printer and texts of its own; it is no print of print.sh.


namespace Go.Proofs.Ytkkhhbegeboonaa.GAll
open Go.RowKit Go.Proofs.YtkkhhbegeboonaaW.PrintWords Go.Proofs.YtkkhhbegeboonaaW.PrintLast Go.Proofs.YtkkhhbegeboonaaW.PrintMore
attribute [local go_sem] max2_int min2_int max_two min_two max_three min_three max_four min_four   -- for this text's walks alone
set_option linter.unusedVariables false
set_option linter.unusedSimpArgs false

/-! ### tangramref11_leaves: function 37 -/
def tangramref11_leaves.f (a0_0 : Int) (l0_1 : List (S59)) (a1 : Int) (a2 : Int) : Option (Bool) := if a1 ≥ 0 then (if a1 < (wrap64 (2 * (l0_1.length : Int))) then ((tangramref11_From.f a0_0 l0_1 a1).bind fun t179 => (some (t179 == a2))) else (some false)) else (some false)
set_option maxHeartbeats 8000000 in
set_option maxRecDepth 100000 in
theorem tangramref11_leaves.calls (a0_0 : Int) (A0_1 : Option Addr) (c0_1 : Nat) (l0_1 : List (S59)) (a1 : Int) (a2 : Int) (r : Bool) (w : World) (hr0_1 : Kd.C k59 w A0_1 l0_1.length l0_1) (hc0_1 : l0_1.length ≤ c0_1) (h : tangramref11_leaves.f a0_0 l0_1 a1 a2 = some r) :
    Calls Try.prog 37 #[.agg #[.int .i64 a0_0, .slice A0_1 l0_1.length c0_1], .int .i64 a1, .int .i64 a2] w fun e w' => e = .returned (.bool r) ∧ Below w.heap.size w w' := by
  have hu24 := Try.underlying24
  have HR0_1 := Aside0.mk hr0_1
  have HC0_1 := Aside0.mk hc0_1
  clear hr0_1 hc0_1
  have HB := Aside0.mk (Below.refl w.heap.size w)
  have H : (if a1 ≥ 0 then (if a1 < (wrap64 (2 * (l0_1.length : Int))) then ((tangramref11_From.f a0_0 l0_1 a1).bind fun t179 => (some (t179 == a2))) else (some false)) else (some false)) = some r := h
  clear h
  by_cases c4 : a1 ≥ 0
  · rw [if_pos c4] at H
    have c4b0 : decide (0 ≤ a1) = true := decide_eq_true c4
    clear c4
    by_cases c5 : a1 < (wrap64 (2 * (l0_1.length : Int)))
    · rw [if_pos c5] at H
      have c5b0 : decide (a1 < (wrap64 (2 * (l0_1.length : Int)))) = true := decide_eq_true c5
      clear c5
      replace H := Option.bind_eq_some_iff.mp H
      obtain ⟨t179, A60, H⟩ := H
      replace H : (some (t179 == a2)) = some r := H
      have A6 := Aside0.mk A60
      clear A60
      obtain rfl := Option.some.inj H
      go_enter Try.func37, Try.ntmps37
      go_wp2_with (first | ((with_reducible refine gate_dst (N := 3) rfl ?_); (try (refine gate_guard (by rfl) ?_; dsimp only)); refine box_event ?hg (N := 3) ?hd (cs := #[.int .i64 a0_0, .slice A0_1 l0_1.length c0_1]) (t := 24) ?hr ?_; (case hd => rfl); (case hg => rfl); (case hr => first | (go_simp; done) | (go_simp; rfl)); intro gb178 hg w7 hbox hb; have n0_ := Aside0.mk (below_step (by repeat (first | (with_reducible first | exact HB.out | apply below_alloc | apply pw_below_drewN | apply below_drew1) | exact HB.out)) hb); have n1_ := Aside0.mk (hbox); have n2_ := Aside0.mk ((by rw [hg]; exact (below_size (by repeat (first | (with_reducible first | exact HB.out | apply below_alloc | apply pw_below_drewN | apply below_drew1) | exact HB.out))) : w.heap.size ≤ gb178)); have n3_ := Aside0.mk ((by rw [hg]; exact (below_size (by repeat (first | (with_reducible first | exact HB.out | apply below_alloc | apply pw_below_drewN | apply below_drew1) | exact HB.out))) : w.heap.size ≤ gb178)); clear HB; have HB := n0_; have BK178 := n1_; have GW178 := n2_; have GE178 := n3_; clear n0_ n1_ n2_ n3_; clear hb hbox hg; have hcz8_0 : w7.cell? ⟨gb178, 0, none⟩ = some (.int .i64 a0_0) := (blk_cell BK178.out 0).trans rfl; have hcz8_1 : w7.cell? ⟨gb178, 1, none⟩ = some (.slice A0_1 l0_1.length c0_1) := (blk_cell BK178.out 1).trans rfl; have hfz8_0 := blk_frozen BK178.out 0; have hfz8_1 := blk_frozen BK178.out 1) | (go_at_call 14; (with_reducible refine (tangramref11_From.calls a0_0 _ _ l0_1 a1 t179 _ ?side1 ?side2 A6.out).mono ?_); (case side1 => repeat (first | exact (Kd.C_below HR0_1.out HB.out) | (with_reducible refine Kd.C_alloc ?_ _) | (with_reducible refine Kd.C_drewN ?_ _) | (with_reducible refine Kd.C_drew ?_))); (case side2 => exact HC0_1.out); rintro e w9 ⟨rfl, hb⟩; have n0_ := Aside0.mk (blk_below (g := gb178) (o := .cells #[.int .i64 a0_0, .slice A0_1 l0_1.length c0_1] 24 (0, 0)) (by (with_reducible repeat (first | refine blk_drewN ?_ _ | refine blk_drew ?_ | refine blk_alloc ?_ _)); exact BK178.out) hb); have n1_ := Aside0.mk (below_step (by repeat (first | (with_reducible first | exact HB.out | apply below_alloc | apply pw_below_drewN | apply below_drew1 | refine below_set ?_ GE178.out) | exact HB.out)) hb); clear BK178; clear HB; have BK178 := n0_; have HB := n1_; clear n0_ n1_; (try clear hb); (try clear hb2); (try clear hk); (try clear hi)))
      go_ret
      exact ⟨by first | rfl | (simp [errW_none, errW_some] <;> rfl) | (simp [*, errW_none, errW_some] <;> rfl), by repeat (first | (with_reducible first | exact HB.out | apply below_alloc | apply pw_below_drewN | apply below_drew1 | refine below_set ?_ GE178.out) | exact HB.out)⟩
    · rw [if_neg c5] at H
      have c5b0 : decide (a1 < (wrap64 (2 * (l0_1.length : Int)))) = false := decide_eq_false c5
      clear c5
      obtain rfl := Option.some.inj H
      go_enter Try.func37, Try.ntmps37
      go_wp2_with (first | ((with_reducible refine gate_dst (N := 3) rfl ?_); (try (refine gate_guard (by rfl) ?_; dsimp only)); refine box_event ?hg (N := 3) ?hd (cs := #[.int .i64 a0_0, .slice A0_1 l0_1.length c0_1]) (t := 24) ?hr ?_; (case hd => rfl); (case hg => rfl); (case hr => first | (go_simp; done) | (go_simp; rfl)); intro gb178 hg w10 hbox hb; have n0_ := Aside0.mk (below_step (by repeat (first | (with_reducible first | exact HB.out | apply below_alloc | apply pw_below_drewN | apply below_drew1) | exact HB.out)) hb); have n1_ := Aside0.mk (hbox); have n2_ := Aside0.mk ((by rw [hg]; exact (below_size (by repeat (first | (with_reducible first | exact HB.out | apply below_alloc | apply pw_below_drewN | apply below_drew1) | exact HB.out))) : w.heap.size ≤ gb178)); have n3_ := Aside0.mk ((by rw [hg]; exact (below_size (by repeat (first | (with_reducible first | exact HB.out | apply below_alloc | apply pw_below_drewN | apply below_drew1) | exact HB.out))) : w.heap.size ≤ gb178)); clear HB; have HB := n0_; have BK178 := n1_; have GW178 := n2_; have GE178 := n3_; clear n0_ n1_ n2_ n3_; clear hb hbox hg; have hcz11_0 : w10.cell? ⟨gb178, 0, none⟩ = some (.int .i64 a0_0) := (blk_cell BK178.out 0).trans rfl; have hcz11_1 : w10.cell? ⟨gb178, 1, none⟩ = some (.slice A0_1 l0_1.length c0_1) := (blk_cell BK178.out 1).trans rfl; have hfz11_0 := blk_frozen BK178.out 0; have hfz11_1 := blk_frozen BK178.out 1))
      go_ret
      exact ⟨by first | rfl | (simp [errW_none, errW_some] <;> rfl) | (simp [*, errW_none, errW_some] <;> rfl), by repeat (first | (with_reducible first | exact HB.out | apply below_alloc | apply pw_below_drewN | apply below_drew1 | refine below_set ?_ GE178.out) | exact HB.out)⟩
  · rw [if_neg c4] at H
    have c4b0 : decide (0 ≤ a1) = false := decide_eq_false c4
    clear c4
    obtain rfl := Option.some.inj H
    go_enter Try.func37, Try.ntmps37
    go_wp2_with (first | ((with_reducible refine gate_dst (N := 3) rfl ?_); (try (refine gate_guard (by rfl) ?_; dsimp only)); refine box_event ?hg (N := 3) ?hd (cs := #[.int .i64 a0_0, .slice A0_1 l0_1.length c0_1]) (t := 24) ?hr ?_; (case hd => rfl); (case hg => rfl); (case hr => first | (go_simp; done) | (go_simp; rfl)); intro gb178 hg w12 hbox hb; have n0_ := Aside0.mk (below_step (by repeat (first | (with_reducible first | exact HB.out | apply below_alloc | apply pw_below_drewN | apply below_drew1) | exact HB.out)) hb); have n1_ := Aside0.mk (hbox); have n2_ := Aside0.mk ((by rw [hg]; exact (below_size (by repeat (first | (with_reducible first | exact HB.out | apply below_alloc | apply pw_below_drewN | apply below_drew1) | exact HB.out))) : w.heap.size ≤ gb178)); have n3_ := Aside0.mk ((by rw [hg]; exact (below_size (by repeat (first | (with_reducible first | exact HB.out | apply below_alloc | apply pw_below_drewN | apply below_drew1) | exact HB.out))) : w.heap.size ≤ gb178)); clear HB; have HB := n0_; have BK178 := n1_; have GW178 := n2_; have GE178 := n3_; clear n0_ n1_ n2_ n3_; clear hb hbox hg))
    go_ret
    exact ⟨by first | rfl | (simp [errW_none, errW_some] <;> rfl) | (simp [*, errW_none, errW_some] <;> rfl), by repeat (first | (with_reducible first | exact HB.out | apply below_alloc | apply pw_below_drewN | apply below_drew1 | refine below_set ?_ GE178.out) | exact HB.out)⟩

/-! ### tangramref11_stands: function 38 -/
def tangramref11_stands.l0 : Nat → List Int → Int → Int → Int → Option (Bool)
  | 0, _, _, _, _ => none
  | k + 1, x0, x1, x2, x7 => if x7 < x1 then (if 0 ≤ x7 then (if x7 < (x0.length : Int) then (if (rd x0 x7) = x2 then (some true) else (tangramref11_stands.l0 k x0 x1 x2 (wrap64 (x7 + 1)))) else (none)) else (none)) else (some false)
def tangramref11_stands.f (k : Nat) (l0 : List Int) (a1 : Int) (a2 : Int) : Option (Bool) := tangramref11_stands.l0 k l0 a1 a2 0
theorem tangramref11_stands.mono_l : ∀ k, (∀ y0 y1 y2 y3, LeO (tangramref11_stands.l0 k y0 y1 y2 y3) (tangramref11_stands.l0 (k + 1) y0 y1 y2 y3))
  | 0 => fun _ _ _ _ r h => by simp [tangramref11_stands.l0] at h
  | k + 1 => by
    have ih0 := tangramref11_stands.mono_l k
    · intro y0 y1 y2 y3
      unfold tangramref11_stands.l0
      repeat' first
      | (with_reducible exact ih0 _ _ _ _)
      | (with_reducible exact LeO.refl _)
      | (with_reducible exact LeO.none _)
      | (with_reducible refine LeO.ite ?_ ?_)
      | (with_reducible refine LeO.bind ?_ (fun _ => ?_))
      | exact ih0 _ _ _ _
      | exact LeO.none _
      | refine LeO.ite ?_ ?_
      | refine LeO.bind ?_ (fun _ => ?_)
theorem tangramref11_stands.mono : ∀ a0 a1 a2 k, LeO (tangramref11_stands.f k a0 a1 a2) (tangramref11_stands.f (k + 1) a0 a1 a2) := by
  intro a0 a1 a2 k
  have ih0 := tangramref11_stands.mono_l k
  unfold tangramref11_stands.f
  repeat' first
      | (with_reducible exact ih0 _ _ _ _)
      | (with_reducible exact LeO.refl _)
      | (with_reducible exact LeO.none _)
      | (with_reducible refine LeO.ite ?_ ?_)
      | (with_reducible refine LeO.bind ?_ (fun _ => ?_))
      | exact ih0 _ _ _ _
      | exact LeO.none _
      | refine LeO.ite ?_ ?_
      | refine LeO.bind ?_ (fun _ => ?_)
set_option maxHeartbeats 8000000 in
set_option maxRecDepth 100000 in
theorem tangramref11_stands.calls (k : Nat) (A0 : Option Addr) (c0 : Nat) (l0 : List Int) (a1 : Int) (a2 : Int) (r : Bool) (w : World) (hr0 : Kd.C (Kd.int .i64) w A0 l0.length l0) (hc0 : l0.length ≤ c0) (h : tangramref11_stands.f k l0 a1 a2 = some r) :
    Calls Try.prog 38 #[.slice A0 l0.length c0, .int .i64 a1, .int .i64 a2] w fun e w' => e = .returned (.bool r) ∧ Drawn0 w w' := by
  have HR0 := Aside0.mk hr0
  have HC0 := Aside0.mk hc0
  clear hr0 hc0
  have H : (tangramref11_stands.l0 k l0 a1 a2 0) = some r := h
  clear h
  have H' := Aside0.mk H
  clear H
  go_enter Try.func38, Try.ntmps38
  go_wp2
  go_loopg [7] k (fun kq v7 w' => ∃ (x7_1 : Int), v7 = .int .i64 x7_1 ∧ Aside0 (tangramref11_stands.l0 kq l0 a1 a2 x7_1 = some r) ∧ Aside0 (kq ≤ k) ∧ Drawn0 w w')
  case atStart => exact ⟨(0), (by first | rfl | (simp; done) | (simp [*]; done)), H', ⟨Nat.le_refl _⟩, by repeat (first | exact Drawn0.refl _ | apply Drawn0.step)⟩
  case round =>
    clear H'
    try clear p2
    try clear c3
    obtain ⟨x7_1, rfl, HA, HK1, ⟨m1, rfl⟩⟩ := hrel
    cases gk with
    | zero => exact absurd HA.out (by simp [tangramref11_stands.l0])
    | succ k1 =>
      have H := HA.out
      clear HA
      simp only [tangramref11_stands.l0] at H
      by_cases c4 : x7_1 < a1
      · rw [if_pos c4] at H
        have c4b0 : decide (x7_1 < a1) = true := decide_eq_true c4
        clear c4
        by_cases c5 : 0 ≤ x7_1
        · rw [if_pos c5] at H
          have c5b0 : decide (0 ≤ x7_1) = true := decide_eq_true c5
          clear c5
          by_cases c6 : x7_1 < (l0.length : Int)
          · rw [if_pos c6] at H
            have c6b0 : decide (x7_1 < (l0.length : Int)) = true := decide_eq_true c6
            clear c6
            by_cases c7 : (rd l0 x7_1) = a2
            · rw [if_pos c7] at H
              have c7b0 : ((rd l0 x7_1) == a2) = true := beq_iff_eq.mpr c7
              have c7b1 : ((rd l0 x7_1) != a2) = false := bne_eq_false_iff_eq.mpr c7
              clear c7
              obtain rfl := Option.some.inj H
              have p180 : 0 ≤ (x7_1 : Int) := of_decide_eq_true (by first | (with_reducible assumption) | assumption)
              have q180 : x7_1 < (l0.length : Int) := of_decide_eq_true (by first | (with_reducible assumption) | assumption)
              obtain ⟨ad180, e180, hx180_0⟩ := Kd.at_int HR0.out x7_1 p180 q180
              cases e180
              replace p180 := eq_true p180
              replace q180 := eq_true q180
              go_wp2
              go_ret
              exact ⟨by first | rfl | (simp; done) | (simp [*]; done), by repeat (first | exact Drawn0.refl _ | apply Drawn0.step)⟩
            · rw [if_neg c7] at H
              have c7b0 : ((rd l0 x7_1) == a2) = false := beq_eq_false_iff_ne.mpr c7
              have c7b1 : ((rd l0 x7_1) != a2) = true := bne_iff_ne.mpr c7
              have H' := Aside0.mk H
              clear H
              have p180 : 0 ≤ (x7_1 : Int) := of_decide_eq_true (by first | (with_reducible assumption) | assumption)
              have q180 : x7_1 < (l0.length : Int) := of_decide_eq_true (by first | (with_reducible assumption) | assumption)
              obtain ⟨ad180, e180, hx180_0⟩ := Kd.at_int HR0.out x7_1 p180 q180
              cases e180
              replace p180 := eq_true p180
              replace q180 := eq_true q180
              go_wp2
              go_roundg k1
              case measure => have := HK1.out; omega
              case rel => exact ⟨(wrap64 (x7_1 + 1)), (by first | rfl | (simp; done) | (simp [*]; done)), H', ⟨by have := HK1.out; omega⟩, by repeat (first | exact Drawn0.refl _ | apply Drawn0.step)⟩
          · rw [if_neg c6] at H
            exact absurd H (by simp)
        · rw [if_neg c5] at H
          exact absurd H (by simp)
      · rw [if_neg c4] at H
        have c4b0 : decide (x7_1 < a1) = false := decide_eq_false c4
        clear c4
        obtain rfl := Option.some.inj H
        go_wp2
        go_ret
        exact ⟨by first | rfl | (simp; done) | (simp [*]; done), by repeat (first | exact Drawn0.refl _ | apply Drawn0.step)⟩

/-! ### tangramref11_degree: function 39 -/
def tangramref11_degree.l0 : Nat → Int → Int → Int → Int → List (S59) → Option (Int)
  | 0, _, _, _, _, _ => none
  | k + 1, x1, x5, x6, x182000, x182001 => if x6 < (wrap64 (2 * (x182001.length : Int))) then ((tangramref11_From.f x182000 x182001 x6).bind fun t182 => (if t182 = x1 then (tangramref11_degree.l0 k x1 (wrap64 (x5 + 1)) (wrap64 (x6 + 1)) x182000 x182001) else (tangramref11_degree.l0 k x1 x5 (wrap64 (x6 + 1)) x182000 x182001))) else (some x5)
def tangramref11_degree.f (k : Nat) (a0_0 : Int) (l0_1 : List (S59)) (a1 : Int) : Option (Int) := tangramref11_degree.l0 k a1 0 0 a0_0 l0_1
theorem tangramref11_degree.mono_l : ∀ k, (∀ y0 y1 y2 y3 y4, LeO (tangramref11_degree.l0 k y0 y1 y2 y3 y4) (tangramref11_degree.l0 (k + 1) y0 y1 y2 y3 y4))
  | 0 => fun _ _ _ _ _ r h => by simp [tangramref11_degree.l0] at h
  | k + 1 => by
    have ih0 := tangramref11_degree.mono_l k
    · intro y0 y1 y2 y3 y4
      unfold tangramref11_degree.l0
      repeat' first
      | (with_reducible exact ih0 _ _ _ _ _)
      | (with_reducible exact LeO.refl _)
      | (with_reducible exact LeO.none _)
      | (with_reducible refine LeO.ite ?_ ?_)
      | (with_reducible refine LeO.bind ?_ (fun _ => ?_))
      | exact ih0 _ _ _ _ _
      | exact LeO.none _
      | refine LeO.ite ?_ ?_
      | refine LeO.bind ?_ (fun _ => ?_)
theorem tangramref11_degree.mono : ∀ a0 a1 a2 k, LeO (tangramref11_degree.f k a0 a1 a2) (tangramref11_degree.f (k + 1) a0 a1 a2) := by
  intro a0 a1 a2 k
  have ih0 := tangramref11_degree.mono_l k
  unfold tangramref11_degree.f
  repeat' first
      | (with_reducible exact ih0 _ _ _ _ _)
      | (with_reducible exact LeO.refl _)
      | (with_reducible exact LeO.none _)
      | (with_reducible refine LeO.ite ?_ ?_)
      | (with_reducible refine LeO.bind ?_ (fun _ => ?_))
      | exact ih0 _ _ _ _ _
      | exact LeO.none _
      | refine LeO.ite ?_ ?_
      | refine LeO.bind ?_ (fun _ => ?_)
set_option maxHeartbeats 8000000 in
set_option maxRecDepth 100000 in
theorem tangramref11_degree.calls (k : Nat) (a0_0 : Int) (A0_1 : Option Addr) (c0_1 : Nat) (l0_1 : List (S59)) (a1 : Int) (r : Int) (w : World) (hr0_1 : Kd.C k59 w A0_1 l0_1.length l0_1) (hc0_1 : l0_1.length ≤ c0_1) (h : tangramref11_degree.f k a0_0 l0_1 a1 = some r) :
    Calls Try.prog 39 #[.agg #[.int .i64 a0_0, .slice A0_1 l0_1.length c0_1], .int .i64 a1] w fun e w' => e = .returned (.int .i64 r) ∧ Below w.heap.size w w' := by
  have hu24 := Try.underlying24
  have HR0_1 := Aside0.mk hr0_1
  have HC0_1 := Aside0.mk hc0_1
  clear hr0_1 hc0_1
  have HB := Aside0.mk (Below.refl w.heap.size w)
  have H : (tangramref11_degree.l0 k a1 0 0 a0_0 l0_1) = some r := h
  clear h
  have H' := Aside0.mk H
  clear H
  go_enter Try.func39, Try.ntmps39
  go_wp2_with (first | ((with_reducible refine gate_dst (N := 2) rfl ?_); refine box_event ?hg (N := 2) ?hd (cs := #[.int .i64 a0_0, .slice A0_1 l0_1.length c0_1]) (t := 24) ?hr ?_; (case hd => rfl); (case hg => rfl); (case hr => first | (go_simp; done) | (go_simp; rfl)); intro gb181 hg w3 hbox hb; have n0_ := Aside0.mk (below_step (by repeat (first | (with_reducible first | exact HB.out | apply below_alloc | apply pw_below_drewN | apply below_drew1) | exact HB.out)) hb); have n1_ := Aside0.mk (hbox); have n2_ := Aside0.mk ((by rw [hg]; exact (below_size (by repeat (first | (with_reducible first | exact HB.out | apply below_alloc | apply pw_below_drewN | apply below_drew1) | exact HB.out))) : w.heap.size ≤ gb181)); have n3_ := Aside0.mk ((by rw [hg]; exact (below_size (by repeat (first | (with_reducible first | exact HB.out | apply below_alloc | apply pw_below_drewN | apply below_drew1) | exact HB.out))) : w.heap.size ≤ gb181)); clear HB; have HB := n0_; have BK181 := n1_; have GW181 := n2_; have GE181 := n3_; clear n0_ n1_ n2_ n3_; clear hb hbox hg))
  go_loopg [5, 6] k (fun kq v5 v6 w' => ∃ (x5_1 : Int) (x6_1 : Int), v5 = .int .i64 x5_1 ∧ v6 = .int .i64 x6_1 ∧ Aside0 (tangramref11_degree.l0 kq a1 x5_1 x6_1 a0_0 l0_1 = some r) ∧ Aside0 (kq ≤ k) ∧ Aside0 (w'.heap[gb181]? = some (.cells #[.int .i64 a0_0, (.slice A0_1 l0_1.length c0_1)] 24 (0, 0))) ∧ Aside0 (Below w.heap.size w w'))
  case atStart => exact ⟨(0), (0), (by first | rfl | (simp; done) | (simp [*]; done)), (by first | rfl | (simp; done) | (simp [*]; done)), H', ⟨Nat.le_refl _⟩, ⟨by (with_reducible repeat (first | refine blk_drewN ?_ _ | refine blk_drew ?_ | refine blk_alloc ?_ _)); exact BK181.out⟩, ⟨by repeat (first | (with_reducible first | exact HB.out | apply below_alloc | apply pw_below_drewN | apply below_drew1 | refine below_set ?_ GE181.out) | exact HB.out)⟩⟩
  case round =>
    clear H'
    try clear p2
    try clear c3
    obtain ⟨x5_1, x6_1, rfl, rfl, HA, HK1, BK181, HB⟩ := hrel
    cases gk with
    | zero => exact absurd HA.out (by simp [tangramref11_degree.l0])
    | succ k1 =>
      have H := HA.out
      clear HA
      simp only [tangramref11_degree.l0] at H
      by_cases c4 : x6_1 < (wrap64 (2 * (l0_1.length : Int)))
      · rw [if_pos c4] at H
        have c4b0 : decide (x6_1 < (wrap64 (2 * (l0_1.length : Int)))) = true := decide_eq_true c4
        clear c4
        replace H := Option.bind_eq_some_iff.mp H
        obtain ⟨t182, A50, H⟩ := H
        replace H : (if t182 = a1 then (tangramref11_degree.l0 k1 a1 (wrap64 (x5_1 + 1)) (wrap64 (x6_1 + 1)) a0_0 l0_1) else (tangramref11_degree.l0 k1 a1 x5_1 (wrap64 (x6_1 + 1)) a0_0 l0_1)) = some r := H
        have A5 := Aside0.mk A50
        clear A50
        by_cases c6 : t182 = a1
        · rw [if_pos c6] at H
          have c6b0 : (t182 == a1) = true := beq_iff_eq.mpr c6
          have c6b1 : (t182 != a1) = false := bne_eq_false_iff_eq.mpr c6
          clear c6
          have H' := Aside0.mk H
          clear H
          have hcz7_0 : wr.cell? ⟨gb181, 0, none⟩ = some (.int .i64 a0_0) := (blk_cell BK181.out 0).trans rfl
          have hcz7_1 : wr.cell? ⟨gb181, 1, none⟩ = some (.slice A0_1 l0_1.length c0_1) := (blk_cell BK181.out 1).trans rfl
          have hfz7_0 := blk_frozen BK181.out 0
          have hfz7_1 := blk_frozen BK181.out 1
          go_wp2_with (first | ((with_reducible refine gate_callee (f := 14) rfl ?_); refine goesL_ (some 17) rfl rfl Try.func14 (by kernel_rfl) rfl #[.agg #[.int .i64 a0_0, .slice A0_1 l0_1.length c0_1], .int .i64 x6_1] rfl (by (try simp only [List.map_toArray, List.map_cons, List.map_nil]); first | done | rfl | (simp only [List.length_drop, List.length_take]; rfl)) ?_; (with_reducible refine (tangramref11_From.calls a0_0 _ _ l0_1 x6_1 t182 _ ?side1 ?side2 A5.out).mono ?_); (case side1 => repeat (first | exact (Kd.C_below HR0_1.out HB.out) | (with_reducible refine Kd.C_alloc ?_ _) | (with_reducible refine Kd.C_drewN ?_ _) | (with_reducible refine Kd.C_drew ?_))); (case side2 => exact HC0_1.out); rintro e w8 ⟨rfl, hb⟩; refine ⟨_, rfl, ?_⟩; have n0_ := Aside0.mk (blk_below (g := gb181) (o := .cells #[.int .i64 a0_0, .slice A0_1 l0_1.length c0_1] 24 (0, 0)) (by (with_reducible repeat (first | refine blk_drewN ?_ _ | refine blk_drew ?_ | refine blk_alloc ?_ _)); exact BK181.out) hb); have n1_ := Aside0.mk (below_step (by repeat (first | (with_reducible first | exact HB.out | apply below_alloc | apply pw_below_drewN | apply below_drew1 | refine below_set ?_ GE181.out) | exact HB.out)) hb); clear BK181; clear HB; have BK181 := n0_; have HB := n1_; clear n0_ n1_; (try clear hb); (try clear hb2); (try clear hk); (try clear hi)))
          go_roundg k1
          case measure => have := HK1.out; omega
          case rel => exact ⟨(wrap64 (x5_1 + 1)), (wrap64 (x6_1 + 1)), (by first | rfl | (simp; done) | (simp [*]; done)), (by first | rfl | (simp; done) | (simp [*]; done)), H', ⟨by have := HK1.out; omega⟩, ⟨by (with_reducible repeat (first | refine blk_drewN ?_ _ | refine blk_drew ?_ | refine blk_alloc ?_ _)); exact BK181.out⟩, ⟨by repeat (first | (with_reducible first | exact HB.out | apply below_alloc | apply pw_below_drewN | apply below_drew1 | refine below_set ?_ GE181.out) | exact HB.out)⟩⟩
        · rw [if_neg c6] at H
          have c6b0 : (t182 == a1) = false := beq_eq_false_iff_ne.mpr c6
          have c6b1 : (t182 != a1) = true := bne_iff_ne.mpr c6
          have H' := Aside0.mk H
          clear H
          have hcz9_0 : wr.cell? ⟨gb181, 0, none⟩ = some (.int .i64 a0_0) := (blk_cell BK181.out 0).trans rfl
          have hcz9_1 : wr.cell? ⟨gb181, 1, none⟩ = some (.slice A0_1 l0_1.length c0_1) := (blk_cell BK181.out 1).trans rfl
          have hfz9_0 := blk_frozen BK181.out 0
          have hfz9_1 := blk_frozen BK181.out 1
          go_wp2_with (first | ((with_reducible refine gate_callee (f := 14) rfl ?_); refine goesL_ (some 17) rfl rfl Try.func14 (by kernel_rfl) rfl #[.agg #[.int .i64 a0_0, .slice A0_1 l0_1.length c0_1], .int .i64 x6_1] rfl (by (try simp only [List.map_toArray, List.map_cons, List.map_nil]); first | done | rfl | (simp only [List.length_drop, List.length_take]; rfl)) ?_; (with_reducible refine (tangramref11_From.calls a0_0 _ _ l0_1 x6_1 t182 _ ?side1 ?side2 A5.out).mono ?_); (case side1 => repeat (first | exact (Kd.C_below HR0_1.out HB.out) | (with_reducible refine Kd.C_alloc ?_ _) | (with_reducible refine Kd.C_drewN ?_ _) | (with_reducible refine Kd.C_drew ?_))); (case side2 => exact HC0_1.out); rintro e w10 ⟨rfl, hb⟩; refine ⟨_, rfl, ?_⟩; have n0_ := Aside0.mk (blk_below (g := gb181) (o := .cells #[.int .i64 a0_0, .slice A0_1 l0_1.length c0_1] 24 (0, 0)) (by (with_reducible repeat (first | refine blk_drewN ?_ _ | refine blk_drew ?_ | refine blk_alloc ?_ _)); exact BK181.out) hb); have n1_ := Aside0.mk (below_step (by repeat (first | (with_reducible first | exact HB.out | apply below_alloc | apply pw_below_drewN | apply below_drew1 | refine below_set ?_ GE181.out) | exact HB.out)) hb); clear BK181; clear HB; have BK181 := n0_; have HB := n1_; clear n0_ n1_; (try clear hb); (try clear hb2); (try clear hk); (try clear hi)))
          go_roundg k1
          case measure => have := HK1.out; omega
          case rel => exact ⟨(x5_1), (wrap64 (x6_1 + 1)), (by first | rfl | (simp; done) | (simp [*]; done)), (by first | rfl | (simp; done) | (simp [*]; done)), H', ⟨by have := HK1.out; omega⟩, ⟨by (with_reducible repeat (first | refine blk_drewN ?_ _ | refine blk_drew ?_ | refine blk_alloc ?_ _)); exact BK181.out⟩, ⟨by repeat (first | (with_reducible first | exact HB.out | apply below_alloc | apply pw_below_drewN | apply below_drew1 | refine below_set ?_ GE181.out) | exact HB.out)⟩⟩
      · rw [if_neg c4] at H
        have c4b0 : decide (x6_1 < (wrap64 (2 * (l0_1.length : Int)))) = false := decide_eq_false c4
        clear c4
        obtain rfl := Option.some.inj H
        have hcz11_0 : wr.cell? ⟨gb181, 0, none⟩ = some (.int .i64 a0_0) := (blk_cell BK181.out 0).trans rfl
        have hcz11_1 : wr.cell? ⟨gb181, 1, none⟩ = some (.slice A0_1 l0_1.length c0_1) := (blk_cell BK181.out 1).trans rfl
        have hfz11_0 := blk_frozen BK181.out 0
        have hfz11_1 := blk_frozen BK181.out 1
        go_wp2
        go_ret
        exact ⟨by first | rfl | (simp [errW_none, errW_some] <;> rfl) | (simp [*, errW_none, errW_some] <;> rfl), by repeat (first | (with_reducible first | exact HB.out | apply below_alloc | apply pw_below_drewN | apply below_drew1 | refine below_set ?_ GE181.out) | exact HB.out)⟩

end Go.Proofs.Ytkkhhbegeboonaa.GAll
/- DERIVED. Twins; the document's leaves, stands, degree. -/




namespace Go.Proofs.Ytkkhhbegeboonaa.Rot
open Go.RowKit Go.Proofs.YtkkhhbegeboonaaW.PrintWords Go.Proofs.YtkkhhbegeboonaaW.PrintLast Go.Proofs.YtkkhhbegeboonaaW.PrintMore Go.Proofs.Ytkkhhbegeboonaa.GAll Go.Proofs.Ytkkhhbegeboonaa.Mem
set_option linter.unusedVariables false
set_option linter.unusedSimpArgs false
theorem xor_one (q : Nat) : q ^^^ 1 = if q % 2 = 0 then q + 1 else q - 1 := by
  have h1 : (q ^^^ 1) / 2 = q / 2 := by rw [Nat.xor_div_two]; simp
  have h2 : (q ^^^ 1) % 2 = (q + 1) % 2 := by
    have h := Nat.xor_mod_two_pow (a := q) (b := 1) (n := 1)
    rw [show 2 ^ 1 = 2 from rfl] at h
    rw [h]
    rcases Nat.mod_two_eq_zero_or_one q with e | e <;> rw [e] <;> simp <;> omega
  split <;> omega
theorem twin_nat {q : Nat} (h : q ≤ 9000000) : twin (q : Int) = ((if q % 2 = 0 then q + 1 else q - 1 : Nat) : Int) := by
  unfold twin Go.bits
  have e : (BitVec.ofInt IntKind.i64.bits (q : Int) ^^^ BitVec.ofInt IntKind.i64.bits 1).toNat = q ^^^ 1 := by
    rw [BitVec.toNat_xor, BitVec.toNat_ofInt, BitVec.toNat_ofInt]
    have hb : IntKind.i64.bits = 64 := rfl
    rw [hb]
    have e1 : ((q : Int) % (2 ^ 64 : Nat)).toNat = q := by omega
    have e2 : ((1 : Int) % (2 ^ 64 : Nat)).toNat = 1 := by omega
    rw [e1, e2]
  simp only [e]
  rw [xor_one, IntWalk.i64_in _ (by split <;> omega)]
theorem twin_in {m q : Nat} (hm : m ≤ 4194304) (h : q < 2 * m) : 0 ≤ twin (q : Int) ∧ twin (q : Int) < ((2 * m : Nat) : Int) := by
  rw [twin_nat (by omega)]
  split <;> omega
theorem leaves_f {n : Int} {l : List Ed} (hl : l.length ≤ 4194304) (h v : Int) : tangramref11_leaves.f n l h v = some (leaves (frs l) v h) := by
  have hfl := frs_length l
  unfold tangramref11_leaves.f leaves
  rw [IntWalk.wrap64_in _ (by omega)]
  by_cases c1 : h ≥ 0
  · rw [if_pos c1, decide_eq_true c1, Bool.true_and]
    by_cases c2 : h < 2 * (l.length : Int)
    · obtain ⟨q, rfl⟩ := Int.eq_ofNat_of_zero_le c1
      rw [if_pos c2, from_f hl (by omega), decide_eq_true (by omega), Bool.true_and, Option.bind_some, Int.toNat_natCast]
    · rw [if_neg c2, decide_eq_false (by omega), Bool.false_and]
  · rw [if_neg c1, decide_eq_false c1, Bool.false_and]
theorem stands_ev {row : List Int} (hb : row.length ≤ 9000000000000000000) (x : Int) {j : Nat} (hj : j ≤ row.length) : Ev (fun k => tangramref11_stands.f k row (j : Int) x) (decide (x ∈ row.take j)) := by
  have loop : ∀ (d i : Nat), i + d = j → x ∉ row.take i → Ev (fun k => tangramref11_stands.l0 k row (j : Int) x (i : Int)) (decide (x ∈ row.take j)) := by
    intro d
    induction d with
    | zero =>
      intro i hi hx
      obtain rfl : i = j := by omega
      rw [decide_eq_false hx]
      refine Ev.step (f := fun _ => some false) (fun k => ?_) (Ev.now _)
      simp only [tangramref11_stands.l0]
      rw [if_neg (by omega)]
    | succ d ih =>
      intro i hi hx
      have hil : i < row.length := by omega
      by_cases c : gi row i = x
      · rw [decide_eq_true (by
          rw [← c, gi_get hil, List.mem_iff_getElem]
          exact ⟨i, by rw [List.length_take]; omega, by simp⟩)]
        refine Ev.step (f := fun _ => some true) (fun k => ?_) (Ev.now _)
        simp only [tangramref11_stands.l0]
        rw [if_pos (by omega), if_pos (by omega), if_pos (by omega), gi_rd, if_pos c]
      · refine Ev.step (fun k => ?_) (ih (i + 1) (by omega) (by
          rw [List.take_succ_eq_append_getElem hil, List.mem_append, List.mem_singleton, ← gi_get hil]
          rintro (h | h)
          · exact hx h
          · exact c h.symm))
        simp only [tangramref11_stands.l0]
        rw [if_pos (by omega), if_pos (by omega), if_pos (by omega), gi_rd, if_neg c, w1 (by omega)]
  exact loop j 0 (by omega) (by simp)
theorem degree_ev {n : Int} {l : List Ed} (hl : l.length ≤ 4194304) (v : Int) : Ev (fun k => tangramref11_degree.f k n l v) ((cnt (frs l) (2 * l.length) v : Nat) : Int) := by
  have loop : ∀ (d i : Nat), i + d = 2 * l.length → Ev (fun k => tangramref11_degree.l0 k v ((cnt (frs l) i v : Nat) : Int) (i : Int) n l) ((cnt (frs l) (2 * l.length) v : Nat) : Int) := by
    intro d
    induction d with
    | zero =>
      intro i hi
      obtain rfl : i = 2 * l.length := by omega
      refine Ev.step (f := fun _ => some _) (fun k => ?_) (Ev.now _)
      simp only [tangramref11_degree.l0]
      rw [IntWalk.wrap64_in _ (by omega), if_neg (by omega)]
    | succ d ih =>
      intro i hi
      have hc := cnt_le (frs l) i v
      refine Ev.step (fun k => ?_) (ih (i + 1) (by omega))
      simp only [tangramref11_degree.l0]
      rw [IntWalk.wrap64_in (2 * (l.length : Int)) (by omega), if_pos (by omega), from_f hl (by omega), Option.bind_some, cnt_succ, w1 (by omega), w1 (by omega)]
      by_cases c : gi (frs l) i = v
      · rw [if_pos c, if_pos c]
      · rw [if_neg c, if_neg c]; rfl
  exact loop (2 * l.length) 0 (by omega)
theorem small_nil : Small [] := ⟨by simp, fun l hl => by cases hl⟩
end Go.Proofs.Ytkkhhbegeboonaa.Rot
/- DERIVED. rot.From, told as the printed forms are. -/


namespace Go.Proofs.Ytkkhhbegeboonaa.GAll
open Go.RowKit Go.Proofs.YtkkhhbegeboonaaW.PrintWords Go.Proofs.YtkkhhbegeboonaaW.PrintLast Go.Proofs.YtkkhhbegeboonaaW.PrintMore
set_option linter.unusedVariables false
set_option linter.unusedSimpArgs false
/-! ### rot.From: told by hand -/
instance rot_From.dec (x : Int) : Decidable (Rot.InI x) := by unfold Rot.InI; infer_instance
/-- all in its bounds -/
def rot_From.fit (n : Int) (l : List S59) (r : List (List Int)) (d : List Int × Int) : Bool := decide (0 ≤ n ∧ n ≤ 1048576 ∧ l.length ≤ 4194304 ∧ (d.1.length : Int) = n ∧ d.2 = 0) && ((l.all fun x => decide (Rot.InI x.f0 ∧ Rot.InI x.f1)) && r.all fun row => decide (row.length * 8 ≤ 140737488351232) && row.all fun u => decide (Rot.InI u))
def rot_From.res : Except (Int × Int) (List (List Int)) → List (List Int) × Int × Int
  | .error ve => ([], ve.1, ve.2)
  | .ok o => (o, 0, 0)
def rot_From.told (n : Int) (l : List S59) (r : List (List Int)) (d : List Int × Int) : Option (List (List Int) × Int × Int) :=
  if rot_From.fit n l r d = true then some (rot_From.res (Rot.fromRows (Rot.halfOf (l.map fun x => (x.f0, x.f1))) d.1 0 r [])) else none
def rot_From.f (k : Nat) (a0_0 : Int) (l0_1 : List S59) (l1 : List (List Int)) : Option (List (List Int) × Int × Int) := (simple_Valid.f k a0_0 l0_1).bind fun t => if t = true then (if (l1.length : Int) = a0_0 then (simple_Degrees.f k a0_0 l0_1).bind fun d => rot_From.told a0_0 l0_1 l1 d else some ([], 0, 110)) else some ([], 0, 1)
theorem rot_From.mono : ∀ a0 a1 a2 k, LeO (rot_From.f k a0 a1 a2) (rot_From.f (k + 1) a0 a1 a2) := by
  intro a0 a1 a2 k
  unfold rot_From.f
  refine LeO.bind (simple_Valid.mono _ _ _) (fun t => ?_)
  refine LeO.ite ?_ (LeO.refl _)
  refine LeO.ite ?_ (LeO.refl _)
  exact LeO.bind (simple_Degrees.mono _ _ _) (fun _ => LeO.refl _)
set_option maxHeartbeats 1000000 in
theorem rot_From.calls (k : Nat) (a0_0 : Int) (A0_1 : Option Addr) (c0_1 : Nat) (l0_1 : List (S59)) (A1 : Option Addr) (c1 : Nat) (l1 : List (List Int)) (r1 : List (List Int)) (r2 : Int) (r3 : Int) (w : World) (hr0_1 : Kd.C k59 w A0_1 l0_1.length l0_1) (hc0_1 : l0_1.length ≤ c0_1) (hr1 : Kd.C (Kd.slice 3 (Kd.int .i64)) w A1 l1.length l1) (hc1 : l1.length ≤ c1) (h : rot_From.f k a0_0 l0_1 l1 = some (r1, r2, r3)) :
    Calls Try.prog 22 #[.agg #[.int .i64 a0_0, .slice A0_1 l0_1.length c0_1], .slice A1 l1.length c1] w fun e w' => ∃ v0_ : Value, e = .returned (.tuple #[v0_, .int .i64 r2, .int .i64 r3]) ∧ Kd.S (Kd.slice 3 (Kd.int .i64)) 28 w' w.heap.size (fun _ => True) v0_ r1 ∧ Below w.heap.size w w' := by
  obtain ⟨t, ht, h⟩ := Option.bind_eq_some_iff.mp h
  have hv : Rot.ValidSays t a0_0 A0_1 l0_1.length c0_1 w := fun W hW => simple_Valid.calls k a0_0 A0_1 c0_1 l0_1 t W (Kd.C_below hr0_1 hW) hc0_1 ht
  have bad : ∀ (v e : Int), e ≠ 0 → Rot.FromSays (.error (v, e)) a0_0 A0_1 l0_1.length c0_1 A1 l1.length c1 w → r1 = [] → r2 = v → r3 = e → Calls Try.prog 22 #[.agg #[.int .i64 a0_0, .slice A0_1 l0_1.length c0_1], .slice A1 l1.length c1] w fun e w' => ∃ v0_ : Value, e = .returned (.tuple #[v0_, .int .i64 r2, .int .i64 r3]) ∧ Kd.S (Kd.slice 3 (Kd.int .i64)) 28 w' w.heap.size (fun _ => True) v0_ r1 ∧ Below w.heap.size w w' := by
    rintro v e he hs rfl rfl rfl
    refine (Rot.from_fault _ _ he a0_0 A0_1 l0_1.length c0_1 A1 l1.length c1 w hs).mono ?_
    rintro z w' ⟨rfl, hb⟩
    exact ⟨_, rfl, Kd.S_nil _ _ _ _ _, hb⟩
  cases t with
  | false =>
    rw [if_neg (by decide)] at h
    obtain ⟨g1, g2, g3⟩ : [] = r1 ∧ 0 = r2 ∧ 1 = r3 := by simpa using h
    exact bad 0 1 (by decide) (fun W pg pa po hb hg ha ho h1 h2 h3 => Rot.from1_invalid a0_0 A0_1 l0_1.length c0_1 pg pa po w W hb hv hg) g1.symm g2.symm g3.symm
  | true =>
    rw [if_pos rfl] at h
    by_cases hm : (l1.length : Int) = a0_0
    · rw [if_pos hm] at h
      obtain ⟨d, hd, h⟩ := Option.bind_eq_some_iff.mp h
      unfold rot_From.told at h
      by_cases hf : rot_From.fit a0_0 l0_1 l1 d = true
      · rw [if_pos hf] at h
        unfold rot_From.fit at hf
        rw [Bool.and_eq_true, Bool.and_eq_true, List.all_eq_true, List.all_eq_true, decide_eq_true_eq] at hf
        obtain ⟨⟨h0, h1, h2, h3, h4⟩, h5, h6⟩ := hf
        obtain ⟨n, rfl⟩ := Int.eq_ofNat_of_zero_le h0
        obtain ⟨ds, e0⟩ := d
        simp only at h3 h4 h
        subst h4
        have hds : Rot.DegreesSays ds (n : Int) A0_1 l0_1.length c0_1 w := fun W hW => simple_Degrees.calls k n A0_1 c0_1 l0_1 ds 0 W (Kd.C_below hr0_1 hW) hc0_1 hd
        have hlm : (l0_1.map fun x => (x.f0, x.f1)).length = l0_1.length := List.length_map ..
        have hp := rot_Check.pairs hr0_1
        have hin : ∀ i, i < (l0_1.map fun x => (x.f0, x.f1)).length → Rot.InI (Mem.pe (l0_1.map fun x => (x.f0, x.f1)) i).1 ∧ Rot.InI (Mem.pe (l0_1.map fun x => (x.f0, x.f1)) i).2 := by
          intro i hi
          rw [List.length_map] at hi
          have := h5 l0_1[i] (List.getElem_mem hi)
          rw [decide_eq_true_eq] at this
          have e : Mem.pe (l0_1.map fun x => (x.f0, x.f1)) i = (l0_1[i].f0, l0_1[i].f1) := by unfold Mem.pe; simp [List.getD_eq_getElem?_getD, hi]
          rw [e]
          exact this
        have hrow : ∀ v, v < l1.length → (Mem.gl l1 v).length * 8 ≤ 140737488351232 ∧ ∀ j, j < (Mem.gl l1 v).length → Rot.InI (Mem.gi (Mem.gl l1 v) j) := by
          intro v hv2
          have e : Mem.gl l1 v = l1[v] := by unfold Mem.gl; rw [List.getD_eq_getElem?_getD, List.getElem?_eq_getElem hv2]; rfl
          have := h6 _ (List.getElem_mem hv2)
          rw [Bool.and_eq_true, List.all_eq_true, decide_eq_true_eq] at this
          rw [e]
          refine ⟨this.1, fun j hj => ?_⟩
          have e2 : Mem.gi l1[v] j = l1[v][j] := by unfold Mem.gi; rw [List.getD_eq_getElem?_getD, List.getElem?_eq_getElem hj]; rfl
          rw [e2]
          have := this.2 _ (List.getElem_mem hj)
          rw [decide_eq_true_eq] at this
          exact this
        obtain ⟨es, hes⟩ : ∃ es, es = l0_1.map fun x => (x.f0, x.f1) := ⟨_, rfl⟩
        rw [← hes] at h hlm hp hin
        have hfs : Rot.FromSays (Rot.fromRows (Rot.halfOf es) ds 0 l1 []) (n : Int) A0_1 l0_1.length c0_1 A1 l1.length c1 w := by
          rw [← hlm] at hv hds h2 ⊢
          intro W pg pa po hb hg ha ho g1 g2 g3
          exact Rot.from1_rows n A0_1 c0_1 es A1 c1 l1 ds _ pg pa po w W hb hv hds hp h2 (by omega) hr1 (by omega) (by omega) hin (fun v j hv2 hj => (hrow v hv2).2 j hj) (fun v hv2 => (hrow v hv2).1) hg ha ho g1 g2 g3
        cases hres : Rot.fromRows (Rot.halfOf es) ds 0 l1 [] with
        | error ve =>
          rw [hres] at h hfs
          obtain ⟨g1, g2, g3⟩ : [] = r1 ∧ ve.1 = r2 ∧ ve.2 = r3 := by simpa [rot_From.res] using h
          exact bad ve.1 ve.2 (Rot.fromRows_err _ _ _ _ _ _ hres) hfs g1.symm g2.symm g3.symm
        | ok o =>
          rw [hres] at h hfs
          obtain ⟨rfl, rfl, rfl⟩ : o = r1 ∧ 0 = r2 ∧ 0 = r3 := by simpa [rot_From.res] using h
          have hol := Rot.fromRows_len _ _ _ _ _ _ hres
          exact Rot.from_ok o (by simp at hol; omega) (n : Int) A0_1 l0_1.length c0_1 A1 l1.length c1 w hfs
      · rw [if_neg hf] at h; cases h
    · rw [if_neg hm] at h
      obtain ⟨g1, g2, g3⟩ : [] = r1 ∧ 0 = r2 ∧ 110 = r3 := by simpa using h
      exact bad 0 110 (by decide) (fun W pg pa po hb hg ha ho h1 h2 h3 => Rot.from1_length a0_0 A0_1 l0_1.length c0_1 A1 l1.length c1 pg pa po w W hb hv hg ha hm) g1.symm g2.symm g3.symm

end Go.Proofs.Ytkkhhbegeboonaa.GAll
-- Written by a program of this session (wip/tools/printx.py) over the kit's printer and texts of its own; it is no print of print.sh.



namespace Go.Proofs.Ytkkhhbegeboonaa.GAll
open Go.RowKit Go.Proofs.YtkkhhbegeboonaaW.PrintWords Go.Proofs.YtkkhhbegeboonaaW.PrintLast Go.Proofs.YtkkhhbegeboonaaW.PrintMore
attribute [local go_sem] max2_int min2_int max_two min_two max_three min_three max_four min_four   -- for this text's walks alone
set_option linter.unusedVariables false
set_option linter.unusedSimpArgs false

/-! ### rot.Around: told by hand -/
/-- all in its bounds -/
def rot_Around.fit (l : List S59) (r : List (List Int)) : Bool := decide (l.length ≤ 4194304) && (decide (r.length ≤ 1048576) && r.all fun row => decide (row.length ≤ 8388608) && row.all fun h => decide (0 ≤ Rot.twin h) && decide (Rot.twin h < ((2 * l.length : Nat) : Int)))
def rot_Around.f (k : Nat) (a0_0 : Int) (l0_1 : List S59) (l1 : List (List Int)) : Option (List (List Int) × Int) := (rot_Check.f k a0_0 l0_1 l1).bind fun t => if t.2 = 0 then (if rot_Around.fit l0_1 l1 = true then some (Rot.aroundOf (Rot.froms (l0_1.map fun x => (x.f0, x.f1))) l1, 0) else none) else some ([], t.2)
theorem rot_Around.mono : ∀ a0 a1 a2 k, LeO (rot_Around.f k a0 a1 a2) (rot_Around.f (k + 1) a0 a1 a2) := by
  intro a0 a1 a2 k
  unfold rot_Around.f
  exact LeO.bind (rot_Check.mono _ _ _ _) (fun _ => LeO.refl _)
theorem rot_Around.at_ {l : List S59} {r : List (List Int)} (h : rot_Around.fit l r = true) : l.length ≤ 4194304 ∧ r.length ≤ 1048576 ∧ ∀ v, v < r.length → (Mem.gl r v).length ≤ 8388608 ∧ ∀ j, j < (Mem.gl r v).length → 0 ≤ Rot.twin (Mem.gi (Mem.gl r v) j) ∧ Rot.twin (Mem.gi (Mem.gl r v) j) < ((2 * l.length : Nat) : Int) := by
  unfold rot_Around.fit at h
  rw [Bool.and_eq_true, Bool.and_eq_true, List.all_eq_true, decide_eq_true_eq, decide_eq_true_eq] at h
  refine ⟨h.1, h.2.1, fun v hv => ?_⟩
  have hm : Mem.gl r v ∈ r := by
    unfold Mem.gl
    rw [List.getD_eq_getElem?_getD, List.getElem?_eq_getElem hv]
    exact List.getElem_mem hv
  have h2 := h.2.2 _ hm
  rw [Bool.and_eq_true, List.all_eq_true, decide_eq_true_eq] at h2
  refine ⟨h2.1, fun j hj => ?_⟩
  have hj2 : Mem.gi (Mem.gl r v) j ∈ Mem.gl r v := by
    unfold Mem.gi
    rw [List.getD_eq_getElem?_getD, List.getElem?_eq_getElem hj]
    exact List.getElem_mem hj
  have h3 := h2.2 _ hj2
  rw [Bool.and_eq_true, decide_eq_true_eq, decide_eq_true_eq] at h3
  exact h3
set_option maxHeartbeats 1000000 in
theorem rot_Around.calls (k : Nat) (a0_0 : Int) (A0_1 : Option Addr) (c0_1 : Nat) (l0_1 : List (S59)) (A1 : Option Addr) (c1 : Nat) (l1 : List (List Int)) (r1 : List (List Int)) (r2 : Int) (w : World) (hr0_1 : Kd.C k59 w A0_1 l0_1.length l0_1) (hc0_1 : l0_1.length ≤ c0_1) (hr1 : Kd.C (Kd.slice 3 (Kd.int .i64)) w A1 l1.length l1) (hc1 : l1.length ≤ c1) (h : rot_Around.f k a0_0 l0_1 l1 = some (r1, r2)) :
    Calls Try.prog 18 #[.agg #[.int .i64 a0_0, .slice A0_1 l0_1.length c0_1], .slice A1 l1.length c1] w fun e w' => ∃ v0_ : Value, e = .returned (.tuple #[v0_, .int .i64 r2]) ∧ Kd.S (Kd.slice 3 (Kd.int .i64)) 28 w' w.heap.size (fun _ => True) v0_ r1 ∧ Below w.heap.size w w' := by
  obtain ⟨t, ht, h⟩ := Option.bind_eq_some_iff.mp h
  obtain ⟨t1, t2⟩ := t
  have hc : ∀ W : World, Below w.heap.size w W → Calls Try.prog 15 #[.agg #[.int .i64 a0_0, .slice A0_1 l0_1.length c0_1], .slice A1 l1.length c1] W fun e w' => e = .returned (.tuple #[.int .i64 t1, .int .i64 t2]) ∧ Below W.heap.size W w' :=
    fun W hW => rot_Check.calls k a0_0 A0_1 c0_1 l0_1 A1 c1 l1 t1 t2 W (Kd.C_below hr0_1 hW) hc0_1 (Kd.C_below hr1 hW) hc1 ht
  by_cases h0 : t2 = 0
  · subst h0
    rw [if_pos rfl] at h
    by_cases hf : rot_Around.fit l0_1 l1 = true
    · rw [if_pos hf] at h
      obtain ⟨g1, g2, g3⟩ := rot_Around.at_ hf
      obtain ⟨rfl, rfl⟩ : Rot.aroundOf (Rot.froms (l0_1.map fun x => (x.f0, x.f1))) l1 = r1 ∧ 0 = r2 := by simpa using h
      have hlm : (l0_1.map fun x => (x.f0, x.f1)).length = l0_1.length := List.length_map ..
      have hp := rot_Check.pairs hr0_1
      obtain ⟨es, hes⟩ : ∃ es, es = l0_1.map fun x => (x.f0, x.f1) := ⟨_, rfl⟩
      rw [← hes] at hlm hp ⊢
      rw [← hlm] at hc g1 g3 ⊢
      exact Rot.around_calls t1 a0_0 A0_1 c0_1 es A1 c1 l1 w hp g1 hr1 g2 (fun v hv => (g3 v hv).1) (fun v j hv hj => (g3 v hv).2 j hj) hc
    · rw [if_neg hf] at h; cases h
  · rw [if_neg h0] at h
    obtain ⟨rfl, rfl⟩ : ([] : List (List Int)) = r1 ∧ t2 = r2 := by simpa using h
    refine (Rot.around_bad a0_0 A0_1 l0_1.length c0_1 A1 l1.length c1 t1 t2 h0 w hc).mono ?_
    rintro e w' ⟨rfl, hb⟩
    exact ⟨_, rfl, Kd.S_nil _ _ _ _ _, hb⟩

/-! ### tangramref11_To: function 41 -/
def tangramref11_To.f (a0_0 : Int) (l0_1 : List (S59)) (a1 : Int) : Option (Int) := (tangramref11_From.f a0_0 l0_1 (Go.bits .xor .i64 a1 1)).bind fun t209 => (some t209)
set_option maxHeartbeats 8000000 in
set_option maxRecDepth 100000 in
theorem tangramref11_To.calls (a0_0 : Int) (A0_1 : Option Addr) (c0_1 : Nat) (l0_1 : List (S59)) (a1 : Int) (r : Int) (w : World) (hr0_1 : Kd.C k59 w A0_1 l0_1.length l0_1) (hc0_1 : l0_1.length ≤ c0_1) (h : tangramref11_To.f a0_0 l0_1 a1 = some r) :
    Calls Try.prog 41 #[.agg #[.int .i64 a0_0, .slice A0_1 l0_1.length c0_1], .int .i64 a1] w fun e w' => e = .returned (.int .i64 r) ∧ Below w.heap.size w w' := by
  have hu24 := Try.underlying24
  have HR0_1 := Aside0.mk hr0_1
  have HC0_1 := Aside0.mk hc0_1
  clear hr0_1 hc0_1
  have HB := Aside0.mk (Below.refl w.heap.size w)
  have H : ((tangramref11_From.f a0_0 l0_1 (Go.bits .xor .i64 a1 1)).bind fun t209 => (some t209)) = some r := h
  clear h
  replace H := Option.bind_eq_some_iff.mp H
  obtain ⟨t209, A30, H⟩ := H
  replace H : (some t209) = some r := H
  have A3 := Aside0.mk A30
  clear A30
  obtain rfl := Option.some.inj H
  go_enter Try.func41, Try.ntmps41
  go_wp2_with (first | ((with_reducible refine gate_dst (N := 2) rfl ?_); refine box_event ?hg (N := 2) ?hd (cs := #[.int .i64 a0_0, .slice A0_1 l0_1.length c0_1]) (t := 24) ?hr ?_; (case hd => rfl); (case hg => rfl); (case hr => first | (go_simp; done) | (go_simp; rfl)); intro gb208 hg w4 hbox hb; have n0_ := Aside0.mk (below_step (by repeat (first | (with_reducible first | exact HB.out | apply below_alloc | apply pw_below_drewN | apply below_drew1) | exact HB.out)) hb); have n1_ := Aside0.mk (hbox); have n2_ := Aside0.mk ((by rw [hg]; exact (below_size (by repeat (first | (with_reducible first | exact HB.out | apply below_alloc | apply pw_below_drewN | apply below_drew1) | exact HB.out))) : w.heap.size ≤ gb208)); have n3_ := Aside0.mk ((by rw [hg]; exact (below_size (by repeat (first | (with_reducible first | exact HB.out | apply below_alloc | apply pw_below_drewN | apply below_drew1) | exact HB.out))) : w.heap.size ≤ gb208)); clear HB; have HB := n0_; have BK208 := n1_; have GW208 := n2_; have GE208 := n3_; clear n0_ n1_ n2_ n3_; clear hb hbox hg; have hcz5_0 : w4.cell? ⟨gb208, 0, none⟩ = some (.int .i64 a0_0) := (blk_cell BK208.out 0).trans rfl; have hcz5_1 : w4.cell? ⟨gb208, 1, none⟩ = some (.slice A0_1 l0_1.length c0_1) := (blk_cell BK208.out 1).trans rfl; have hfz5_0 := blk_frozen BK208.out 0; have hfz5_1 := blk_frozen BK208.out 1) | ((with_reducible refine gate_callee (f := 14) rfl ?_); refine goesL_ (some 8) rfl rfl Try.func14 (by kernel_rfl) rfl #[.agg #[.int .i64 a0_0, .slice A0_1 l0_1.length c0_1], .int .i64 (Go.bits .xor .i64 a1 1)] rfl (by (try simp only [List.map_toArray, List.map_cons, List.map_nil]); first | done | rfl | (simp only [List.length_drop, List.length_take]; rfl)) ?_; (with_reducible refine (tangramref11_From.calls a0_0 _ _ l0_1 (Go.bits .xor .i64 a1 1) t209 _ ?side1 ?side2 A3.out).mono ?_); (case side1 => repeat (first | exact (Kd.C_below HR0_1.out HB.out) | (with_reducible refine Kd.C_alloc ?_ _) | (with_reducible refine Kd.C_drewN ?_ _) | (with_reducible refine Kd.C_drew ?_))); (case side2 => exact HC0_1.out); rintro e w6 ⟨rfl, hb⟩; refine ⟨_, rfl, ?_⟩; have n0_ := Aside0.mk (blk_below (g := gb208) (o := .cells #[.int .i64 a0_0, .slice A0_1 l0_1.length c0_1] 24 (0, 0)) (by (with_reducible repeat (first | refine blk_drewN ?_ _ | refine blk_drew ?_ | refine blk_alloc ?_ _)); exact BK208.out) hb); have n1_ := Aside0.mk (below_step (by repeat (first | (with_reducible first | exact HB.out | apply below_alloc | apply pw_below_drewN | apply below_drew1 | refine below_set ?_ GE208.out) | exact HB.out)) hb); clear BK208; clear HB; have BK208 := n0_; have HB := n1_; clear n0_ n1_; (try clear hb); (try clear hb2); (try clear hk); (try clear hi)))
  go_ret
  exact ⟨by first | rfl | (simp [errW_none, errW_some] <;> rfl) | (simp [*, errW_none, errW_some] <;> rfl), by repeat (first | (with_reducible first | exact HB.out | apply below_alloc | apply pw_below_drewN | apply below_drew1 | refine below_set ?_ GE208.out) | exact HB.out)⟩

end Go.Proofs.Ytkkhhbegeboonaa.GAll
-- Written by a program of this session (wip/tools/printx.py) over the kit's printer and texts of its own; it is no print of print.sh.



namespace Go.Proofs.Ytkkhhbegeboonaa.GAll
open Go.RowKit Go.Proofs.YtkkhhbegeboonaaW.PrintWords Go.Proofs.YtkkhhbegeboonaaW.PrintLast Go.Proofs.YtkkhhbegeboonaaW.PrintMore
attribute [local go_sem] max2_int min2_int max_two min_two max_three min_three max_four min_four   -- for this text's walks alone
set_option linter.unusedVariables false
set_option linter.unusedSimpArgs false

/-! ### tangramref11_Half: function 46 -/
def tangramref11_Half.l0 : Nat → Int → Int → Int → Int → List (S59) → Option (Int)
  | 0, _, _, _, _, _ => none
  | k + 1, x1, x2, x7, x248000, x248001 => if x7 < (wrap64 (2 * (x248001.length : Int))) then ((tangramref11_From.f x248000 x248001 x7).bind fun t248 => (if t248 = x1 then ((tangramref11_To.f x248000 x248001 x7).bind fun t249 => (if t249 = x2 then (some x7) else (tangramref11_Half.l0 k x1 x2 (wrap64 (x7 + 1)) x248000 x248001))) else (tangramref11_Half.l0 k x1 x2 (wrap64 (x7 + 1)) x248000 x248001))) else (some (-1))
def tangramref11_Half.f (k : Nat) (a0_0 : Int) (l0_1 : List (S59)) (a1 : Int) (a2 : Int) : Option (Int) := tangramref11_Half.l0 k a1 a2 0 a0_0 l0_1
theorem tangramref11_Half.mono_l : ∀ k, (∀ y0 y1 y2 y3 y4, LeO (tangramref11_Half.l0 k y0 y1 y2 y3 y4) (tangramref11_Half.l0 (k + 1) y0 y1 y2 y3 y4))
  | 0 => fun _ _ _ _ _ r h => by simp [tangramref11_Half.l0] at h
  | k + 1 => by
    have ih0 := tangramref11_Half.mono_l k
    · intro y0 y1 y2 y3 y4
      unfold tangramref11_Half.l0
      repeat' first
      | (with_reducible exact ih0 _ _ _ _ _)
      | (with_reducible exact LeO.refl _)
      | (with_reducible exact LeO.none _)
      | (with_reducible refine LeO.ite ?_ ?_)
      | (with_reducible refine LeO.bind ?_ (fun _ => ?_))
      | exact ih0 _ _ _ _ _
      | exact LeO.none _
      | refine LeO.ite ?_ ?_
      | refine LeO.bind ?_ (fun _ => ?_)
theorem tangramref11_Half.mono : ∀ a0 a1 a2 a3 k, LeO (tangramref11_Half.f k a0 a1 a2 a3) (tangramref11_Half.f (k + 1) a0 a1 a2 a3) := by
  intro a0 a1 a2 a3 k
  have ih0 := tangramref11_Half.mono_l k
  unfold tangramref11_Half.f
  repeat' first
      | (with_reducible exact ih0 _ _ _ _ _)
      | (with_reducible exact LeO.refl _)
      | (with_reducible exact LeO.none _)
      | (with_reducible refine LeO.ite ?_ ?_)
      | (with_reducible refine LeO.bind ?_ (fun _ => ?_))
      | exact ih0 _ _ _ _ _
      | exact LeO.none _
      | refine LeO.ite ?_ ?_
      | refine LeO.bind ?_ (fun _ => ?_)
set_option maxHeartbeats 8000000 in
set_option maxRecDepth 100000 in
theorem tangramref11_Half.calls (k : Nat) (a0_0 : Int) (A0_1 : Option Addr) (c0_1 : Nat) (l0_1 : List (S59)) (a1 : Int) (a2 : Int) (r : Int) (w : World) (hr0_1 : Kd.C k59 w A0_1 l0_1.length l0_1) (hc0_1 : l0_1.length ≤ c0_1) (h : tangramref11_Half.f k a0_0 l0_1 a1 a2 = some r) :
    Calls Try.prog 46 #[.agg #[.int .i64 a0_0, .slice A0_1 l0_1.length c0_1], .int .i64 a1, .int .i64 a2] w fun e w' => e = .returned (.int .i64 r) ∧ Below w.heap.size w w' := by
  have hu24 := Try.underlying24
  have HR0_1 := Aside0.mk hr0_1
  have HC0_1 := Aside0.mk hc0_1
  clear hr0_1 hc0_1
  have HB := Aside0.mk (Below.refl w.heap.size w)
  have H : (tangramref11_Half.l0 k a1 a2 0 a0_0 l0_1) = some r := h
  clear h
  have H' := Aside0.mk H
  clear H
  go_enter Try.func46, Try.ntmps46
  go_wp2_with (first | ((with_reducible refine gate_dst (N := 3) rfl ?_); refine box_event ?hg (N := 3) ?hd (cs := #[.int .i64 a0_0, .slice A0_1 l0_1.length c0_1]) (t := 24) ?hr ?_; (case hd => rfl); (case hg => rfl); (case hr => first | (go_simp; done) | (go_simp; rfl)); intro gb247 hg w4 hbox hb; have n0_ := Aside0.mk (below_step (by repeat (first | (with_reducible first | exact HB.out | apply below_alloc | apply pw_below_drewN | apply below_drew1) | exact HB.out)) hb); have n1_ := Aside0.mk (hbox); have n2_ := Aside0.mk ((by rw [hg]; exact (below_size (by repeat (first | (with_reducible first | exact HB.out | apply below_alloc | apply pw_below_drewN | apply below_drew1) | exact HB.out))) : w.heap.size ≤ gb247)); have n3_ := Aside0.mk ((by rw [hg]; exact (below_size (by repeat (first | (with_reducible first | exact HB.out | apply below_alloc | apply pw_below_drewN | apply below_drew1) | exact HB.out))) : w.heap.size ≤ gb247)); clear HB; have HB := n0_; have BK247 := n1_; have GW247 := n2_; have GE247 := n3_; clear n0_ n1_ n2_ n3_; clear hb hbox hg))
  go_loopg [7] k (fun kq v7 w' => ∃ (x7_1 : Int), v7 = .int .i64 x7_1 ∧ Aside0 (tangramref11_Half.l0 kq a1 a2 x7_1 a0_0 l0_1 = some r) ∧ Aside0 (kq ≤ k) ∧ Aside0 (w'.heap[gb247]? = some (.cells #[.int .i64 a0_0, (.slice A0_1 l0_1.length c0_1)] 24 (0, 0))) ∧ Aside0 (Below w.heap.size w w'))
  case atStart => exact ⟨(0), (by first | rfl | (simp; done) | (simp [*]; done)), H', ⟨Nat.le_refl _⟩, ⟨by (with_reducible repeat (first | refine blk_drewN ?_ _ | refine blk_drew ?_ | refine blk_alloc ?_ _)); exact BK247.out⟩, ⟨by repeat (first | (with_reducible first | exact HB.out | apply below_alloc | apply pw_below_drewN | apply below_drew1 | refine below_set ?_ GE247.out) | exact HB.out)⟩⟩
  case round =>
    clear H'
    try clear p2
    try clear c4
    obtain ⟨x7_1, rfl, HA, HK1, BK247, HB⟩ := hrel
    cases gk with
    | zero => exact absurd HA.out (by simp [tangramref11_Half.l0])
    | succ k1 =>
      have H := HA.out
      clear HA
      simp only [tangramref11_Half.l0] at H
      by_cases c5 : x7_1 < (wrap64 (2 * (l0_1.length : Int)))
      · rw [if_pos c5] at H
        have c5b0 : decide (x7_1 < (wrap64 (2 * (l0_1.length : Int)))) = true := decide_eq_true c5
        clear c5
        replace H := Option.bind_eq_some_iff.mp H
        obtain ⟨t248, A60, H⟩ := H
        replace H : (if t248 = a1 then ((tangramref11_To.f a0_0 l0_1 x7_1).bind fun t249 => (if t249 = a2 then (some x7_1) else (tangramref11_Half.l0 k1 a1 a2 (wrap64 (x7_1 + 1)) a0_0 l0_1))) else (tangramref11_Half.l0 k1 a1 a2 (wrap64 (x7_1 + 1)) a0_0 l0_1)) = some r := H
        have A6 := Aside0.mk A60
        clear A60
        by_cases c7 : t248 = a1
        · rw [if_pos c7] at H
          have c7b0 : (t248 == a1) = true := beq_iff_eq.mpr c7
          have c7b1 : (t248 != a1) = false := bne_eq_false_iff_eq.mpr c7
          clear c7
          replace H := Option.bind_eq_some_iff.mp H
          obtain ⟨t249, A80, H⟩ := H
          replace H : (if t249 = a2 then (some x7_1) else (tangramref11_Half.l0 k1 a1 a2 (wrap64 (x7_1 + 1)) a0_0 l0_1)) = some r := H
          have A8 := Aside0.mk A80
          clear A80
          by_cases c9 : t249 = a2
          · rw [if_pos c9] at H
            have c9b0 : (t249 == a2) = true := beq_iff_eq.mpr c9
            have c9b1 : (t249 != a2) = false := bne_eq_false_iff_eq.mpr c9
            clear c9
            obtain rfl := Option.some.inj H
            have hcz10_0 : wr.cell? ⟨gb247, 0, none⟩ = some (.int .i64 a0_0) := (blk_cell BK247.out 0).trans rfl
            have hcz10_1 : wr.cell? ⟨gb247, 1, none⟩ = some (.slice A0_1 l0_1.length c0_1) := (blk_cell BK247.out 1).trans rfl
            have hfz10_0 := blk_frozen BK247.out 0
            have hfz10_1 := blk_frozen BK247.out 1
            go_wp2_with (first | ((with_reducible refine gate_callee (f := 14) rfl ?_); refine goesL_ (some 18) rfl rfl Try.func14 (by kernel_rfl) rfl #[.agg #[.int .i64 a0_0, .slice A0_1 l0_1.length c0_1], .int .i64 x7_1] rfl (by (try simp only [List.map_toArray, List.map_cons, List.map_nil]); first | done | rfl | (simp only [List.length_drop, List.length_take]; rfl)) ?_; (with_reducible refine (tangramref11_From.calls a0_0 _ _ l0_1 x7_1 t248 _ ?side1 ?side2 A6.out).mono ?_); (case side1 => repeat (first | exact (Kd.C_below HR0_1.out HB.out) | (with_reducible refine Kd.C_alloc ?_ _) | (with_reducible refine Kd.C_drewN ?_ _) | (with_reducible refine Kd.C_drew ?_))); (case side2 => exact HC0_1.out); rintro e w11 ⟨rfl, hb⟩; refine ⟨_, rfl, ?_⟩; have n0_ := Aside0.mk (blk_below (g := gb247) (o := .cells #[.int .i64 a0_0, .slice A0_1 l0_1.length c0_1] 24 (0, 0)) (by (with_reducible repeat (first | refine blk_drewN ?_ _ | refine blk_drew ?_ | refine blk_alloc ?_ _)); exact BK247.out) hb); have n1_ := Aside0.mk (below_step (by repeat (first | (with_reducible first | exact HB.out | apply below_alloc | apply pw_below_drewN | apply below_drew1 | refine below_set ?_ GE247.out) | exact HB.out)) hb); clear BK247; clear HB; have BK247 := n0_; have HB := n1_; clear n0_ n1_; (try clear hb); (try clear hb2); (try clear hk); (try clear hi); have hcz12_0 : w11.cell? ⟨gb247, 0, none⟩ = some (.int .i64 a0_0) := (blk_cell BK247.out 0).trans rfl; have hcz12_1 : w11.cell? ⟨gb247, 1, none⟩ = some (.slice A0_1 l0_1.length c0_1) := (blk_cell BK247.out 1).trans rfl; have hfz12_0 := blk_frozen BK247.out 0; have hfz12_1 := blk_frozen BK247.out 1) | (go_at_call 41; (with_reducible refine (tangramref11_To.calls a0_0 _ _ l0_1 x7_1 t249 _ ?side1 ?side2 A8.out).mono ?_); (case side1 => repeat (first | exact (Kd.C_below HR0_1.out HB.out) | (with_reducible refine Kd.C_alloc ?_ _) | (with_reducible refine Kd.C_drewN ?_ _) | (with_reducible refine Kd.C_drew ?_))); (case side2 => exact HC0_1.out); rintro e w13 ⟨rfl, hb⟩; have n0_ := Aside0.mk (blk_below (g := gb247) (o := .cells #[.int .i64 a0_0, .slice A0_1 l0_1.length c0_1] 24 (0, 0)) (by (with_reducible repeat (first | refine blk_drewN ?_ _ | refine blk_drew ?_ | refine blk_alloc ?_ _)); exact BK247.out) hb); have n1_ := Aside0.mk (below_step (by repeat (first | (with_reducible first | exact HB.out | apply below_alloc | apply pw_below_drewN | apply below_drew1 | refine below_set ?_ GE247.out) | exact HB.out)) hb); clear BK247; clear HB; have BK247 := n0_; have HB := n1_; clear n0_ n1_; (try clear hb); (try clear hb2); (try clear hk); (try clear hi)))
            go_ret
            exact ⟨by first | rfl | (simp [errW_none, errW_some] <;> rfl) | (simp [*, errW_none, errW_some] <;> rfl), by repeat (first | (with_reducible first | exact HB.out | apply below_alloc | apply pw_below_drewN | apply below_drew1 | refine below_set ?_ GE247.out) | exact HB.out)⟩
          · rw [if_neg c9] at H
            have c9b0 : (t249 == a2) = false := beq_eq_false_iff_ne.mpr c9
            have c9b1 : (t249 != a2) = true := bne_iff_ne.mpr c9
            have H' := Aside0.mk H
            clear H
            have hcz14_0 : wr.cell? ⟨gb247, 0, none⟩ = some (.int .i64 a0_0) := (blk_cell BK247.out 0).trans rfl
            have hcz14_1 : wr.cell? ⟨gb247, 1, none⟩ = some (.slice A0_1 l0_1.length c0_1) := (blk_cell BK247.out 1).trans rfl
            have hfz14_0 := blk_frozen BK247.out 0
            have hfz14_1 := blk_frozen BK247.out 1
            go_wp2_with (first | ((with_reducible refine gate_callee (f := 14) rfl ?_); refine goesL_ (some 18) rfl rfl Try.func14 (by kernel_rfl) rfl #[.agg #[.int .i64 a0_0, .slice A0_1 l0_1.length c0_1], .int .i64 x7_1] rfl (by (try simp only [List.map_toArray, List.map_cons, List.map_nil]); first | done | rfl | (simp only [List.length_drop, List.length_take]; rfl)) ?_; (with_reducible refine (tangramref11_From.calls a0_0 _ _ l0_1 x7_1 t248 _ ?side1 ?side2 A6.out).mono ?_); (case side1 => repeat (first | exact (Kd.C_below HR0_1.out HB.out) | (with_reducible refine Kd.C_alloc ?_ _) | (with_reducible refine Kd.C_drewN ?_ _) | (with_reducible refine Kd.C_drew ?_))); (case side2 => exact HC0_1.out); rintro e w15 ⟨rfl, hb⟩; refine ⟨_, rfl, ?_⟩; have n0_ := Aside0.mk (blk_below (g := gb247) (o := .cells #[.int .i64 a0_0, .slice A0_1 l0_1.length c0_1] 24 (0, 0)) (by (with_reducible repeat (first | refine blk_drewN ?_ _ | refine blk_drew ?_ | refine blk_alloc ?_ _)); exact BK247.out) hb); have n1_ := Aside0.mk (below_step (by repeat (first | (with_reducible first | exact HB.out | apply below_alloc | apply pw_below_drewN | apply below_drew1 | refine below_set ?_ GE247.out) | exact HB.out)) hb); clear BK247; clear HB; have BK247 := n0_; have HB := n1_; clear n0_ n1_; (try clear hb); (try clear hb2); (try clear hk); (try clear hi); have hcz16_0 : w15.cell? ⟨gb247, 0, none⟩ = some (.int .i64 a0_0) := (blk_cell BK247.out 0).trans rfl; have hcz16_1 : w15.cell? ⟨gb247, 1, none⟩ = some (.slice A0_1 l0_1.length c0_1) := (blk_cell BK247.out 1).trans rfl; have hfz16_0 := blk_frozen BK247.out 0; have hfz16_1 := blk_frozen BK247.out 1) | (go_at_call 41; (with_reducible refine (tangramref11_To.calls a0_0 _ _ l0_1 x7_1 t249 _ ?side1 ?side2 A8.out).mono ?_); (case side1 => repeat (first | exact (Kd.C_below HR0_1.out HB.out) | (with_reducible refine Kd.C_alloc ?_ _) | (with_reducible refine Kd.C_drewN ?_ _) | (with_reducible refine Kd.C_drew ?_))); (case side2 => exact HC0_1.out); rintro e w17 ⟨rfl, hb⟩; have n0_ := Aside0.mk (blk_below (g := gb247) (o := .cells #[.int .i64 a0_0, .slice A0_1 l0_1.length c0_1] 24 (0, 0)) (by (with_reducible repeat (first | refine blk_drewN ?_ _ | refine blk_drew ?_ | refine blk_alloc ?_ _)); exact BK247.out) hb); have n1_ := Aside0.mk (below_step (by repeat (first | (with_reducible first | exact HB.out | apply below_alloc | apply pw_below_drewN | apply below_drew1 | refine below_set ?_ GE247.out) | exact HB.out)) hb); clear BK247; clear HB; have BK247 := n0_; have HB := n1_; clear n0_ n1_; (try clear hb); (try clear hb2); (try clear hk); (try clear hi)))
            go_roundg k1
            case measure => have := HK1.out; omega
            case rel => exact ⟨(wrap64 (x7_1 + 1)), (by first | rfl | (simp; done) | (simp [*]; done)), H', ⟨by have := HK1.out; omega⟩, ⟨by (with_reducible repeat (first | refine blk_drewN ?_ _ | refine blk_drew ?_ | refine blk_alloc ?_ _)); exact BK247.out⟩, ⟨by repeat (first | (with_reducible first | exact HB.out | apply below_alloc | apply pw_below_drewN | apply below_drew1 | refine below_set ?_ GE247.out) | exact HB.out)⟩⟩
        · rw [if_neg c7] at H
          have c7b0 : (t248 == a1) = false := beq_eq_false_iff_ne.mpr c7
          have c7b1 : (t248 != a1) = true := bne_iff_ne.mpr c7
          have H' := Aside0.mk H
          clear H
          have hcz18_0 : wr.cell? ⟨gb247, 0, none⟩ = some (.int .i64 a0_0) := (blk_cell BK247.out 0).trans rfl
          have hcz18_1 : wr.cell? ⟨gb247, 1, none⟩ = some (.slice A0_1 l0_1.length c0_1) := (blk_cell BK247.out 1).trans rfl
          have hfz18_0 := blk_frozen BK247.out 0
          have hfz18_1 := blk_frozen BK247.out 1
          go_wp2_with (first | ((with_reducible refine gate_callee (f := 14) rfl ?_); refine goesL_ (some 18) rfl rfl Try.func14 (by kernel_rfl) rfl #[.agg #[.int .i64 a0_0, .slice A0_1 l0_1.length c0_1], .int .i64 x7_1] rfl (by (try simp only [List.map_toArray, List.map_cons, List.map_nil]); first | done | rfl | (simp only [List.length_drop, List.length_take]; rfl)) ?_; (with_reducible refine (tangramref11_From.calls a0_0 _ _ l0_1 x7_1 t248 _ ?side1 ?side2 A6.out).mono ?_); (case side1 => repeat (first | exact (Kd.C_below HR0_1.out HB.out) | (with_reducible refine Kd.C_alloc ?_ _) | (with_reducible refine Kd.C_drewN ?_ _) | (with_reducible refine Kd.C_drew ?_))); (case side2 => exact HC0_1.out); rintro e w19 ⟨rfl, hb⟩; refine ⟨_, rfl, ?_⟩; have n0_ := Aside0.mk (blk_below (g := gb247) (o := .cells #[.int .i64 a0_0, .slice A0_1 l0_1.length c0_1] 24 (0, 0)) (by (with_reducible repeat (first | refine blk_drewN ?_ _ | refine blk_drew ?_ | refine blk_alloc ?_ _)); exact BK247.out) hb); have n1_ := Aside0.mk (below_step (by repeat (first | (with_reducible first | exact HB.out | apply below_alloc | apply pw_below_drewN | apply below_drew1 | refine below_set ?_ GE247.out) | exact HB.out)) hb); clear BK247; clear HB; have BK247 := n0_; have HB := n1_; clear n0_ n1_; (try clear hb); (try clear hb2); (try clear hk); (try clear hi)))
          go_roundg k1
          case measure => have := HK1.out; omega
          case rel => exact ⟨(wrap64 (x7_1 + 1)), (by first | rfl | (simp; done) | (simp [*]; done)), H', ⟨by have := HK1.out; omega⟩, ⟨by (with_reducible repeat (first | refine blk_drewN ?_ _ | refine blk_drew ?_ | refine blk_alloc ?_ _)); exact BK247.out⟩, ⟨by repeat (first | (with_reducible first | exact HB.out | apply below_alloc | apply pw_below_drewN | apply below_drew1 | refine below_set ?_ GE247.out) | exact HB.out)⟩⟩
      · rw [if_neg c5] at H
        have c5b0 : decide (x7_1 < (wrap64 (2 * (l0_1.length : Int)))) = false := decide_eq_false c5
        clear c5
        obtain rfl := Option.some.inj H
        have hcz20_0 : wr.cell? ⟨gb247, 0, none⟩ = some (.int .i64 a0_0) := (blk_cell BK247.out 0).trans rfl
        have hcz20_1 : wr.cell? ⟨gb247, 1, none⟩ = some (.slice A0_1 l0_1.length c0_1) := (blk_cell BK247.out 1).trans rfl
        have hfz20_0 := blk_frozen BK247.out 0
        have hfz20_1 := blk_frozen BK247.out 1
        go_wp2
        go_ret
        exact ⟨by first | rfl | (simp [errW_none, errW_some] <;> rfl) | (simp [*, errW_none, errW_some] <;> rfl), by repeat (first | (with_reducible first | exact HB.out | apply below_alloc | apply pw_below_drewN | apply below_drew1 | refine below_set ?_ GE247.out) | exact HB.out)⟩

end Go.Proofs.Ytkkhhbegeboonaa.GAll
/- DERIVED. The document's Half and the program's table of half-edges. No program. -/



namespace Go.Proofs.Ytkkhhbegeboonaa.Rot
open Go.RowKit Go.Proofs.YtkkhhbegeboonaaW.PrintWords Go.Proofs.YtkkhhbegeboonaaW.PrintLast Go.Proofs.YtkkhhbegeboonaaW.PrintMore Go.Proofs.Ytkkhhbegeboonaa.GAll Go.Proofs.Ytkkhhbegeboonaa.Mem
set_option linter.unusedVariables false
set_option linter.unusedSimpArgs false
section
variable {n : Int} {l : List Ed}
theorem good_lt (hg : PureV.Good n l) {i : Nat} (d : Nat) (h : i + d + 1 < l.length) : PureV.lt (PureV.rdE l (i : Nat)) (PureV.rdE l ((i + d + 1 : Nat) : Int)) := by
  induction d with
  | zero =>
    have := (hg.2.2.2 (i + 0 + 1) h).2 (by omega)
    exact this
  | succ d ih =>
    have h1 := ih (by omega)
    have h2 := (hg.2.2.2 (i + (d + 1) + 1) h).2 (by omega)
    have e : i + (d + 1) + 1 - 1 = i + d + 1 := by omega
    rw [e] at h2
    unfold PureV.lt at h1 h2 ⊢
    omega
theorem good_ne (hg : PureV.Good n l) {i j : Nat} (hi : i < l.length) (hj : j < l.length) (e1 : (PureV.rdE l (i : Nat)).f0 = (PureV.rdE l (j : Nat)).f0) (e2 : (PureV.rdE l (i : Nat)).f1 = (PureV.rdE l (j : Nat)).f1) : i = j := by
  rcases Nat.lt_trichotomy i j with h | h | h
  · have := good_lt hg (i := i) (j - i - 1) (by omega)
    rw [show i + (j - i - 1) + 1 = j by omega] at this
    unfold PureV.lt at this; omega
  · exact h
  · have := good_lt hg (i := j) (i - j - 1) (by omega)
    rw [show j + (i - j - 1) + 1 = i by omega] at this
    unfold PureV.lt at this; omega
theorem half_some (hl : l.length ≤ 4194304) : ∀ (i : Nat), i ≤ l.length → ∀ (u v h : Int), halfTo (ends l) i (u, v) = some h → 0 ≤ h ∧ h < ((2 * i : Nat) : Int) ∧ gi (frs l) h.toNat = u ∧ gi (frs l) (twin h).toNat = v
  | 0, _, u, v, h, e => by cases e
  | i + 1, hi, u, v, h, e => by
    unfold halfTo at e
    rw [pe_ends (show i < l.length by omega)] at e
    have t0 := twin_nat (q := 2 * i) (by omega)
    have t1 := twin_nat (q := 2 * i + 1) (by omega)
    rw [if_pos (by omega)] at t0
    rw [if_neg (by omega), show 2 * i + 1 - 1 = 2 * i by omega] at t1
    have f0 := frs_even (l := l) (i := i) (by omega)
    have f1 := frs_odd (l := l) (i := i) (by omega)
    split at e
    · next c =>
      injection e with e
      injection c with c1 c2
      subst e
      rw [t1, Int.toNat_natCast, Int.toNat_natCast, f0, f1]
      exact ⟨by omega, by omega, c1.symm, c2.symm⟩
    · split at e
      · next c =>
        injection e with e
        injection c with c1 c2
        subst e
        rw [t0, Int.toNat_natCast, Int.toNat_natCast, f0, f1]
        exact ⟨by omega, by omega, c1.symm, c2.symm⟩
      · have := half_some hl i (by omega) u v h e
        exact ⟨this.1, by omega, this.2.2⟩
theorem half_is (hg : PureV.Good n l) : ∀ (i : Nat), i ≤ l.length → ∀ (q : Nat), q < 2 * i → halfTo (ends l) i (gi (frs l) q, gi (frs l) (twin (q : Int)).toNat) = some (q : Int)
  | 0, _, q, hq => by omega
  | i + 1, hi, q, hq => by
    have hl := hg.2.2.1
    have hil : i < l.length := by omega
    obtain ⟨⟨a0, a1, a2⟩, _⟩ := hg.2.2.2 i hil
    have tq := twin_nat (q := q) (by omega)
    have hj : q / 2 < l.length := by omega
    obtain ⟨⟨b0, b1, b2⟩, _⟩ := hg.2.2.2 (q / 2) hj
    unfold halfTo
    rw [pe_ends hil]
    have g0 := frs_even hj
    have g1 := frs_odd hj
    rcases Nat.mod_two_eq_zero_or_one q with e | e
    · rw [if_pos e] at tq
      have q0 : 2 * (q / 2) = q := by omega
      rw [q0] at g0 g1
      rw [tq, Int.toNat_natCast, g0, g1]
      by_cases c : q / 2 = i
      · rw [c, if_neg (by intro h; injection h with h1 h2; omega), if_pos rfl]
        congr 1; omega
      · have hne : ¬ ((PureV.rdE l ((q / 2 : Nat) : Int)).f0 = (PureV.rdE l (i : Nat)).f0 ∧ (PureV.rdE l ((q / 2 : Nat) : Int)).f1 = (PureV.rdE l (i : Nat)).f1) := fun h => c (good_ne hg hj hil h.1 h.2)
        rw [if_neg (by intro h; injection h with h1 h2; omega), if_neg (by intro h; injection h with h1 h2; exact hne ⟨h1, h2⟩)]
        have := half_is hg i (by omega) q (by omega)
        rw [tq, Int.toNat_natCast, g0, g1] at this
        exact this
    · rw [if_neg (by omega)] at tq
      have q0 : 2 * (q / 2) = q - 1 := by omega
      rw [q0] at g0 g1
      rw [show q - 1 + 1 = q by omega] at g1
      rw [tq, Int.toNat_natCast, g0, g1]
      by_cases c : q / 2 = i
      · rw [c, if_pos rfl]
        congr 1; omega
      · have hne : ¬ ((PureV.rdE l ((q / 2 : Nat) : Int)).f0 = (PureV.rdE l (i : Nat)).f0 ∧ (PureV.rdE l ((q / 2 : Nat) : Int)).f1 = (PureV.rdE l (i : Nat)).f1) := fun h => c (good_ne hg hj hil h.1 h.2)
        rw [if_neg (by intro h; injection h with h1 h2; exact hne ⟨h2, h1⟩), if_neg (by intro h; injection h with h1 h2; omega)]
        have := half_is hg i (by omega) q (by omega)
        rw [tq, Int.toNat_natCast, g0, g1] at this
        exact this
def halfInt : Option Int → Int
  | some h => h
  | none => -1
theorem half_ev (hg : PureV.Good n l) (u v : Int) : Ev (fun k => tangramref11_Half.f k n l u v) (halfInt (halfOf (ends l) (u, v))) := by
  have hl := hg.2.2.1
  have hel := ends_length l
  have loop : ∀ (d i : Nat), i + d = 2 * l.length → (∀ q, q < i → ¬ (gi (frs l) q = u ∧ gi (frs l) (twin (q : Int)).toNat = v)) → Ev (fun k => tangramref11_Half.l0 k u v (i : Int) n l) (halfInt (halfOf (ends l) (u, v))) := by
    intro d
    induction d with
    | zero =>
      intro i hi hp
      have hno : halfOf (ends l) (u, v) = none := by
        cases e : halfOf (ends l) (u, v) with
        | none => rfl
        | some h =>
          unfold halfOf at e
          obtain ⟨h1, h2, h3, h4⟩ := half_some hl _ (by omega) u v h e
          obtain ⟨q, rfl⟩ := Int.eq_ofNat_of_zero_le h1
          rw [Int.toNat_natCast] at h3
          exact absurd ⟨h3, h4⟩ (hp q (by omega))
      rw [hno]
      refine Ev.step (f := fun _ => some (-1)) (fun k => ?_) (Ev.now _)
      simp only [tangramref11_Half.l0]
      rw [IntWalk.wrap64_in _ (by omega), if_neg (by omega)]
    | succ d ih =>
      intro i hi hp
      have hto : tangramref11_To.f n l (i : Int) = some (gi (frs l) (twin (i : Int)).toNat) := by
        unfold tangramref11_To.f
        show (tangramref11_From.f n l (twin (i : Int))).bind _ = _
        obtain ⟨t1, t2⟩ := twin_in hl (show i < 2 * l.length by omega)
        obtain ⟨q, hq⟩ := Int.eq_ofNat_of_zero_le t1
        rw [hq, from_f hl (by omega), Option.bind_some, Int.toNat_natCast]
      have hst : ∀ k, tangramref11_Half.l0 (k + 1) u v (i : Int) n l = if gi (frs l) i = u then (if gi (frs l) (twin (i : Int)).toNat = v then some (i : Int) else tangramref11_Half.l0 k u v ((i + 1 : Nat) : Int) n l) else tangramref11_Half.l0 k u v ((i + 1 : Nat) : Int) n l := by
        intro k
        simp only [tangramref11_Half.l0]
        rw [IntWalk.wrap64_in (2 * (l.length : Int)) (by omega), if_pos (by omega), from_f hl (by omega), Option.bind_some, hto, Option.bind_some, w1 (by omega)]
      by_cases c : gi (frs l) i = u ∧ gi (frs l) (twin (i : Int)).toNat = v
      · have hy := half_is hg (ends l).length (by omega) i (by omega)
        rw [c.1, c.2] at hy
        unfold halfOf
        rw [hy]
        refine Ev.step (f := fun _ => some (i : Int)) (fun k => ?_) (Ev.now _)
        rw [hst k, if_pos c.1, if_pos c.2]
      · refine Ev.step (fun k => ?_) (ih (i + 1) (by omega) (fun q hq => ?_))
        · rw [hst k]
          by_cases c1 : gi (frs l) i = u
          · rw [if_pos c1, if_neg (fun c2 => c ⟨c1, c2⟩)]
          · rw [if_neg c1]
        · rcases Nat.lt_succ_iff_lt_or_eq.1 hq with g | rfl
          · exact hp q g
          · exact c
  exact loop (2 * l.length) 0 (by omega) (fun q hq => by omega)
end
theorem gi_snoc {x : List Int} {h : Int} {i : Nat} (hi : i < x.length) : gi (x ++ [h]) i = gi x i := by
  unfold gi
  rw [List.getD_eq_getElem?_getD, List.getD_eq_getElem?_getD, List.getElem?_append_left hi]
theorem gi_last {x : List Int} {h : Int} {i : Nat} (hi : i = x.length) : gi (x ++ [h]) i = h := by
  subst hi
  unfold gi
  simp [List.getD_eq_getElem?_getD]
end Go.Proofs.Ytkkhhbegeboonaa.Rot
