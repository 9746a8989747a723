/- DERIVED. Texts of this seat, one behind the other: lemmas and walks that the statement RotCanon needs. No condition. -/
import Derived.Test.YtkkhhbegeboonaaCRotCanona
-- Written by a program of this session (wip/tools/printx.py) over the kit's printer and texts of its own; it is no print of print.sh.




namespace Go.Proofs.Ytkkhhbegeboonaa.GAll
open Go.RowKit Go.Proofs.YtkkhhbegeboonaaW.PrintWords Go.Proofs.YtkkhhbegeboonaaW.PrintLast Go.Proofs.YtkkhhbegeboonaaW.PrintMore
attribute [local go_sem] max2_int min2_int max_two min_two max_three min_three max_four min_four   -- for this text's walks alone
set_option linter.unusedVariables false
set_option linter.unusedSimpArgs false

/-! ### rot.Mirror: told by hand -/
/-- each list is turned round, and the least of what comes of it found, within k rounds, and no list is too long -/
def rot_Mirror.fit (k : Nat) (l0 : List (List Int)) : Bool := decide (l0.length * 24 ≤ 140737488355328) && l0.all fun l => (rot_least.f k l.reverse == some ((Rot.leastAt l.reverse : Nat) : Int)) && ((slices_Reverse_int_int.f k l == some l.reverse) && decide (l.length * 8 ≤ 140737488355328))
def rot_Mirror.f (k : Nat) (l0 : List (List Int)) : Option (List (List Int)) := if rot_Mirror.fit k l0 = true then some ((l0.map List.reverse).map Rot.turnl) else none
theorem rot_Mirror.fit_mono {k : Nat} {l0 : List (List Int)} (h : rot_Mirror.fit k l0 = true) : rot_Mirror.fit (k + 1) l0 = true := by
  unfold rot_Mirror.fit at h ⊢
  rw [Bool.and_eq_true, List.all_eq_true] at h ⊢
  refine ⟨h.1, fun l hl => ?_⟩
  have := h.2 l hl
  rw [Bool.and_eq_true, Bool.and_eq_true, beq_iff_eq, beq_iff_eq] at this ⊢
  exact ⟨rot_least.mono _ k _ this.1, slices_Reverse_int_int.mono _ k _ this.2.1, this.2.2⟩
theorem rot_Mirror.mono : ∀ a0 k, LeO (rot_Mirror.f k a0) (rot_Mirror.f (k + 1) a0) := by
  intro a0 k r h
  unfold rot_Mirror.f at h ⊢
  by_cases hf : rot_Mirror.fit k a0 = true
  · rw [if_pos hf] at h
    rw [if_pos (rot_Mirror.fit_mono hf)]
    exact h
  · rw [if_neg hf] at h; cases h
theorem rot_Mirror.at_ {k : Nat} {l0 : List (List Int)} (h : rot_Mirror.fit k l0 = true) : l0.length * 24 ≤ 140737488355328 ∧ ∀ j, j < l0.length → rot_least.f k (Mem.gl l0 j).reverse = some ((Rot.leastAt (Mem.gl l0 j).reverse : Nat) : Int) ∧ slices_Reverse_int_int.f k (Mem.gl l0 j) = some (Mem.gl l0 j).reverse ∧ (Mem.gl l0 j).length * 8 ≤ 140737488355328 := by
  unfold rot_Mirror.fit at h
  rw [Bool.and_eq_true, List.all_eq_true, decide_eq_true_eq] at h
  refine ⟨h.1, fun j hj => ?_⟩
  have hm : Mem.gl l0 j ∈ l0 := by
    unfold Mem.gl
    rw [List.getD_eq_getElem?_getD, List.getElem?_eq_getElem hj]
    exact List.getElem_mem hj
  have := h.2 _ hm
  rw [Bool.and_eq_true, Bool.and_eq_true, beq_iff_eq, beq_iff_eq, decide_eq_true_eq] at this
  exact this
theorem rot_Mirror.least {k : Nat} {l0 : List (List Int)} (h : rot_Mirror.fit k l0 = true) : Rot.LeastSays (l0.map List.reverse) := by
  intro j A c W hj hC hc
  rw [List.length_map] at hj
  have e : Mem.gl (l0.map List.reverse) j = (Mem.gl l0 j).reverse := by unfold Mem.gl; simp [List.getD_eq_getElem?_getD, hj]
  rw [e] at hC hc ⊢
  exact (rot_least.calls k A c _ _ W hC hc ((rot_Mirror.at_ h).2 j hj).1).mono fun e w' ⟨h1, h2⟩ => ⟨h1, h2.below⟩
theorem rot_Mirror.rev {k : Nat} {l0 : List (List Int)} (h : rot_Mirror.fit k l0 = true) : Rot.ReverseSays l0 := by
  intro j v W0 W hj hB hR
  refine (slices_Reverse_int_int.calls k (fun q => v.ownBlock = some q) v (Mem.gl l0 j) (Mem.gl l0 j).reverse W0 W hB hR ((rot_Mirror.at_ h).2 j hj).2.1).mono fun e w' ⟨h1, h2, h3, h4⟩ => ⟨h1, ?_, h4.1, fun b hb hn => h4.2 b hb hn, h3⟩
  have := Kd.own_of_R h2
  rw [List.length_reverse] at this
  exact this
theorem rot_Mirror.calls (k : Nat) (A0 : Option Addr) (c0 : Nat) (l0 : List (List Int)) (r : List (List Int)) (w : World) (hr0 : Kd.C (Kd.slice 3 (Kd.int .i64)) w A0 l0.length l0) (hc0 : l0.length ≤ c0) (h : rot_Mirror.f k l0 = some r) :
    Calls Try.prog 27 #[.slice A0 l0.length c0] w fun e w' => ∃ v0_ : Value, e = .returned (v0_) ∧ Kd.S (Kd.slice 3 (Kd.int .i64)) 28 w' w.heap.size (fun _ => True) v0_ r ∧ Below w.heap.size w w' := by
  unfold rot_Mirror.f at h
  by_cases hf : rot_Mirror.fit k l0 = true
  · rw [if_pos hf] at h
    obtain rfl : (l0.map List.reverse).map Rot.turnl = r := by simpa using h
    obtain ⟨h1, h2⟩ := rot_Mirror.at_ hf
    exact Rot.mirror_calls A0 c0 l0 w hr0 h1 (fun j hj => (h2 j hj).2.2) (rot_Mirror.rev hf) (rot_Mirror.least hf)
  · rw [if_neg hf] at h; cases h

/-! ### tangramref11_Mirror: function 28 -/
mutual
def tangramref11_Mirror.l0 : Nat → List (List Int) → List (List Int) → Int → Option ((List (List Int)))
  | 0, _, _, _ => none
  | k + 1, x0, x3, x4 => if x4 < (x0.length : Int) then (if 0 ≤ x4 then (tangramref11_Mirror.l1 k x0 x3 x4 ([] : List Int) (wrap64 (((rd_L4 x0 x4).length : Int) - 1))) else (none)) else ((tangramref11_Canon.f k x3).bind fun t293 => (some t293))
def tangramref11_Mirror.l1 : Nat → List (List Int) → List (List Int) → Int → List Int → Int → Option ((List (List Int)))
  | 0, _, _, _, _, _ => none
  | k + 1, x0, x3, x4, x5, x6 => if x6 ≥ 0 then (if 0 ≤ x4 then (if x4 < (x0.length : Int) then (if 0 ≤ x6 then (if x6 < ((rd_L4 x0 x4).length : Int) then (if x5.length < 17592186044416 then (tangramref11_Mirror.l1 k x0 x3 x4 (x5 ++ [rd (rd_L4 x0 x4) x6]) (wrap64 (x6 - 1))) else (none)) else (none)) else (none)) else (none)) else (none)) else (if x3.length < 5864062014805 then (tangramref11_Mirror.l0 k x0 (x3 ++ [x5]) (wrap64 (x4 + 1))) else (none))
end
def tangramref11_Mirror.f (k : Nat) (l0 : List (List Int)) : Option ((List (List Int))) := tangramref11_Mirror.l0 k l0 ([] : List (List Int)) 0
theorem tangramref11_Mirror.mono_l : ∀ k, (∀ y0 y1 y2, LeO (tangramref11_Mirror.l0 k y0 y1 y2) (tangramref11_Mirror.l0 (k + 1) y0 y1 y2)) ∧ (∀ y0 y1 y2 y3 y4, LeO (tangramref11_Mirror.l1 k y0 y1 y2 y3 y4) (tangramref11_Mirror.l1 (k + 1) y0 y1 y2 y3 y4))
  | 0 => ⟨fun _ _ _ r h => by simp [tangramref11_Mirror.l0] at h, fun _ _ _ _ _ r h => by simp [tangramref11_Mirror.l1] at h⟩
  | k + 1 => by
    obtain ⟨ih0, ih1⟩ := tangramref11_Mirror.mono_l k
    refine ⟨?_, ?_⟩
    · intro y0 y1 y2
      unfold tangramref11_Mirror.l0
      repeat' first
      | (with_reducible exact ih0 _ _ _)
      | (with_reducible exact ih1 _ _ _ _ _)
      | (with_reducible exact tangramref11_Canon.mono _ _)
      | (with_reducible exact LeO.refl _)
      | (with_reducible exact LeO.none _)
      | (with_reducible refine LeO.ite ?_ ?_)
      | (with_reducible refine LeO.bind ?_ (fun _ => ?_))
      | exact ih0 _ _ _
      | exact ih1 _ _ _ _ _
      | exact tangramref11_Canon.mono _ _
      | exact LeO.none _
      | refine LeO.ite ?_ ?_
      | refine LeO.bind ?_ (fun _ => ?_)
    · intro y0 y1 y2 y3 y4
      unfold tangramref11_Mirror.l1
      repeat' first
      | (with_reducible exact ih0 _ _ _)
      | (with_reducible exact ih1 _ _ _ _ _)
      | (with_reducible exact tangramref11_Canon.mono _ _)
      | (with_reducible exact LeO.refl _)
      | (with_reducible exact LeO.none _)
      | (with_reducible refine LeO.ite ?_ ?_)
      | (with_reducible refine LeO.bind ?_ (fun _ => ?_))
      | exact ih0 _ _ _
      | exact ih1 _ _ _ _ _
      | exact tangramref11_Canon.mono _ _
      | exact LeO.none _
      | refine LeO.ite ?_ ?_
      | refine LeO.bind ?_ (fun _ => ?_)
theorem tangramref11_Mirror.mono : ∀ a0 k, LeO (tangramref11_Mirror.f k a0) (tangramref11_Mirror.f (k + 1) a0) := by
  intro a0 k
  obtain ⟨ih0, ih1⟩ := tangramref11_Mirror.mono_l k
  unfold tangramref11_Mirror.f
  repeat' first
      | (with_reducible exact ih0 _ _ _)
      | (with_reducible exact ih1 _ _ _ _ _)
      | (with_reducible exact tangramref11_Canon.mono _ _)
      | (with_reducible exact LeO.refl _)
      | (with_reducible exact LeO.none _)
      | (with_reducible refine LeO.ite ?_ ?_)
      | (with_reducible refine LeO.bind ?_ (fun _ => ?_))
      | exact ih0 _ _ _
      | exact ih1 _ _ _ _ _
      | exact tangramref11_Canon.mono _ _
      | exact LeO.none _
      | refine LeO.ite ?_ ?_
      | refine LeO.bind ?_ (fun _ => ?_)
set_option maxHeartbeats 8000000 in
set_option maxRecDepth 100000 in
theorem tangramref11_Mirror.calls (k : Nat) (A0 : Option Addr) (c0 : Nat) (l0 : List (List Int)) (r : List (List Int)) (w : World) (hr0 : Kd.C (Kd.slice 3 (Kd.int .i64)) w A0 l0.length l0) (hc0 : l0.length ≤ c0) (h : tangramref11_Mirror.f k l0 = some r) :
    Calls Try.prog 28 #[.slice A0 l0.length c0] w fun e w' => ∃ v0_ : Value, e = .returned (v0_) ∧ Kd.S (Kd.slice 3 (Kd.int .i64)) 28 w' w.heap.size (fun _ => True) v0_ r ∧ Below w.heap.size w w' := by
  have HR0 := Aside0.mk hr0
  have HC0 := Aside0.mk hc0
  clear hr0 hc0
  have HB := Aside0.mk (Below.refl w.heap.size w)
  have H : (tangramref11_Mirror.l0 k l0 ([] : List (List Int)) 0) = some r := h
  clear h
  have H' := Aside0.mk H
  clear H
  go_enter Try.func28, Try.ntmps28
  go_wp2
  go_loopg [3, 4] k (fun kq v3 v4 w' => ∃ (x3_1 : List (List Int)) (x4_1 : Int), v4 = .int .i64 x4_1 ∧ Aside0 (tangramref11_Mirror.l0 kq l0 x3_1 x4_1 = some r) ∧ Aside0 (kq ≤ k) ∧ Aside0 (Kd.S (Kd.slice 3 (Kd.int .i64)) 28 w' w.heap.size (fun _ => True) v3 x3_1) ∧ Aside0 (Below w.heap.size w w'))
  case atStart => exact ⟨(([] : List (List Int))), (0), (by first | rfl | (simp; done) | (simp [*]; done)), H', ⟨Nat.le_refl _⟩, ⟨by first | exact Kd.S_nil _ _ _ _ _ | exact Kd.N_nil _ _ _ _ _ | exact Kd.V_nil _ _ _ _ _ | exact Kd.Q_nil _ _ _ _ _ | exact Kd.R_nil _ _ _ _ _⟩, ⟨by repeat (first | (with_reducible first | exact HB.out | apply below_alloc | apply pw_below_drewN | apply below_drew1) | exact HB.out)⟩⟩
  case round =>
    clear H'
    obtain ⟨x3_1, x4_1, rfl, HA, HK1, HO_3, HB⟩ := hrel
    cases gk with
    | zero => exact absurd HA.out (by simp [tangramref11_Mirror.l0])
    | succ k1 =>
      have H := HA.out
      clear HA
      simp only [tangramref11_Mirror.l0] at H
      by_cases c2 : x4_1 < (l0.length : Int)
      · rw [if_pos c2] at H
        have c2b0 : decide (x4_1 < (l0.length : Int)) = true := decide_eq_true c2
        clear c2
        by_cases c3 : 0 ≤ x4_1
        · rw [if_pos c3] at H
          have c3b0 : decide (0 ≤ x4_1) = true := decide_eq_true c3
          clear c3
          have H' := Aside0.mk H
          clear H
          have p296 : 0 ≤ (x4_1 : Int) := of_decide_eq_true (by first | (with_reducible assumption) | assumption)
          have q296 : x4_1 < (l0.length : Int) := of_decide_eq_true (by first | (with_reducible assumption) | assumption)
          obtain ⟨ad296, A296_0, c296_0, e296, hx296_0, hl296_0, hi296_0⟩ := at_L4 HR0.out x4_1 p296 q296
          cases e296
          replace hx296_0 := (HB.out.cell (World.block_lt_of_cell? w _ hx296_0)).trans hx296_0
          have HR296_0 := Aside0.mk hi296_0
          have HC296_0 := Aside0.mk hl296_0
          clear hi296_0 hl296_0
          replace p296 := eq_true p296
          replace q296 := eq_true q296
          go_wp2
          go_loopg [5, 6] k1 (fun kq v5 v6 w' => ∃ (x5_2 : List Int) (x6_2 : Int), v6 = .int .i64 x6_2 ∧ Aside0 (tangramref11_Mirror.l1 kq l0 x3_1 x4_1 x5_2 x6_2 = some r) ∧ Aside0 (kq ≤ k1) ∧ Aside0 (Kd.S (Kd.slice 3 (Kd.int .i64)) 28 w' w.heap.size (fun k_ => some k_ ≠ (v5 : Value).ownBlock) u3 x3_1) ∧ Aside0 (Kd.R (Kd.int .i64) 3 w' w.heap.size (fun _ => True) v5 x5_2) ∧ Aside0 (Below w.heap.size w w'))
          case atStart => exact ⟨(([] : List Int)), (wrap64 (((rd_L4 l0 x4_1).length : Int) - 1)), (by first | rfl | (simp; done) | (simp [*]; done)), H', ⟨Nat.le_refl _⟩, ⟨by (with_reducible repeat (first | apply Kd.S_alloc | apply Kd.S_drewN | apply Kd.S_drew)); exact Kd.S_mono HO_3.out (fun _ hk => (by simp [Value.ownBlock]))⟩, ⟨by first | exact Kd.R_nil _ _ _ _ _ | exact Kd.N_nil _ _ _ _ _ | exact Kd.V_nil _ _ _ _ _ | exact Kd.Q_nil _ _ _ _ _ | exact Kd.S_nil _ _ _ _ _⟩, ⟨by repeat (first | (with_reducible first | exact HB.out | apply below_alloc | apply pw_below_drewN | apply below_drew1) | exact HB.out)⟩⟩
          case round =>
            clear H'
            try clear c2
            try clear c2b0
            try clear p2
            try clear q2
            try clear hx2
            try clear c3
            try clear c3b0
            try clear hx296_0
            try clear p296
            try clear q296
            obtain ⟨x5_2, x6_2, rfl, HA, HK2, HO_3, HO_5, HB⟩ := hrel
            cases gk with
            | zero => exact absurd HA.out (by simp [tangramref11_Mirror.l1])
            | succ k2 =>
              have H := HA.out
              clear HA
              simp only [tangramref11_Mirror.l1] at H
              by_cases c4 : x6_2 ≥ 0
              · rw [if_pos c4] at H
                have c4b0 : decide (0 ≤ x6_2) = true := decide_eq_true c4
                clear c4
                by_cases c5 : 0 ≤ x4_1
                · rw [if_pos c5] at H
                  have c5b0 : decide (0 ≤ x4_1) = true := decide_eq_true c5
                  clear c5
                  by_cases c6 : x4_1 < (l0.length : Int)
                  · rw [if_pos c6] at H
                    have c6b0 : decide (x4_1 < (l0.length : Int)) = true := decide_eq_true c6
                    clear c6
                    by_cases c7 : 0 ≤ x6_2
                    · rw [if_pos c7] at H
                      have c7b0 : decide (0 ≤ x6_2) = true := decide_eq_true c7
                      clear c7
                      by_cases c8 : x6_2 < ((rd_L4 l0 x4_1).length : Int)
                      · rw [if_pos c8] at H
                        have c8b0 : decide (x6_2 < ((rd_L4 l0 x4_1).length : Int)) = true := decide_eq_true c8
                        clear c8
                        by_cases c9 : x5_2.length < 17592186044416
                        · rw [if_pos c9] at H
                          have LMc9 := Aside0.mk c9
                          clear c9
                          obtain ⟨y299, hy299⟩ : ∃ y_ : List Int, y_ = (x5_2 ++ [rd (rd_L4 l0 x4_1) x6_2]) := ⟨_, rfl⟩
                          replace H : (tangramref11_Mirror.l1 k2 l0 x3_1 x4_1 y299 (wrap64 (x6_2 - 1))) = some r := by first | (rw [hy299]; with_reducible exact H) | (have H2_ := (Option.bind_some _ _).symm.trans H; rw [hy299]; with_reducible exact H2_) | (have H2_ := (Option.bind_some _ _).symm.trans H; with_reducible exact H2_) | with_reducible exact H | (rw [hy299]; exact H) | exact H
                          have Ny299 := Aside0.mk hy299
                          clear hy299
                          have H' := Aside0.mk H
                          clear H
                          have p297 : 0 ≤ (x4_1 : Int) := of_decide_eq_true (by first | (with_reducible assumption) | assumption)
                          have q297 : x4_1 < (l0.length : Int) := of_decide_eq_true (by first | (with_reducible assumption) | assumption)
                          obtain ⟨ad297, A297_0, c297_0, e297, hx297_0, hl297_0, hi297_0⟩ := at_L4 HR0.out x4_1 p297 q297
                          obtain rfl : ad296 = ad297 := (by injection e297)
                          replace hx297_0 := (HB.out.cell (World.block_lt_of_cell? w _ hx297_0)).trans hx297_0
                          have HR297_0 := Aside0.mk hi297_0
                          have HC297_0 := Aside0.mk hl297_0
                          clear hi297_0 hl297_0
                          replace p297 := eq_true p297
                          replace q297 := eq_true q297
                          have p298 : 0 ≤ (x6_2 : Int) := of_decide_eq_true (by first | (with_reducible assumption) | assumption)
                          have q298 : x6_2 < ((rd_L4 l0 x4_1).length : Int) := of_decide_eq_true (by first | (with_reducible assumption) | assumption)
                          obtain ⟨ad298, e298, hx298_0⟩ := Kd.at_int HR297_0.out x6_2 p298 q298
                          cases e298
                          replace hx298_0 := (HB.out.cell (World.block_lt_of_cell? w _ hx298_0)).trans hx298_0
                          replace p298 := eq_true p298
                          replace q298 := eq_true q298
                          go_wp2_with (first | ((with_reducible refine gate_builtin (b := .append) (xs := #[.tmp 23, .tmp 31]) rfl ?_); at_builtin; refine Kd.R_append (Kd.int .i64) (w0 := w) w.heap.size rfl (.tmp 23) (.tmp 31) 28 3 (.int .i64 0) 8 rfl Try.underlying28 info3 rfl (by decide) (by omega) u5 x5_2 (rd (rd_L4 l0 x4_1) x6_2) [.int .i64 (rd (rd_L4 l0 x4_1) x6_2)] (fun _ => True) (fun _ => False) rfl rfl ?aP (fun _ hk => hk.elim) ?aF ?aO ?aB ?aS ?aL ?_; (case aP => exact rfl); (case aB => exact (by repeat (first | (with_reducible first | exact HB.out | apply below_alloc | apply pw_below_drewN | apply below_drew1) | exact HB.out))); (case aF => exact (fun _ _ => trivial)); (case aO => exact (by (with_reducible repeat (first | apply Kd.R_alloc | apply Kd.R_drewN | apply Kd.R_drew)); exact HO_5.out)); (case aS => exact (below_size (by repeat (first | (with_reducible first | exact HB.out | apply below_alloc | apply pw_below_drewN | apply below_drew1) | exact HB.out)))); (case aL => have := LMc9.out; omega); intro v300 w10 ho hb hg hat; rw [← Ny299.out] at ho; have n0_ := Aside0.mk (Kd.S_after (ok := (fun _ => True)) (by (with_reducible repeat (first | apply Kd.S_alloc | apply Kd.S_drewN | apply Kd.S_drew)); exact Kd.S_mono HO_3.out (fun _ hk => ⟨trivial, hk⟩)) hg hat); have n1_ := Aside0.mk (hb); have n2_ := Aside0.mk (ho); clear HO_3; clear HB; clear HO_5; have HO_3 := n0_; have HB := n1_; have HO301 := n2_; clear n0_ n1_ n2_; clear ho hb hg hat))
                          go_roundg k2
                          case measure => have := HK1.out; have := HK2.out; omega
                          case rel => exact ⟨(y299), (wrap64 (x6_2 - 1)), (by first | rfl | (simp; done) | (simp [*]; done)), H', ⟨by have := HK1.out; have := HK2.out; omega⟩, ⟨by (with_reducible repeat (first | apply Kd.S_alloc | apply Kd.S_drewN | apply Kd.S_drew)); exact Kd.S_mono HO_3.out (fun _ hk => hk.2)⟩, ⟨by (with_reducible repeat (first | apply Kd.R_alloc | apply Kd.R_drewN | apply Kd.R_drew)); exact HO301.out⟩, ⟨by repeat (first | (with_reducible first | exact HB.out | apply below_alloc | apply pw_below_drewN | apply below_drew1) | exact HB.out)⟩⟩
                        · rw [if_neg c9] at H
                          exact absurd H (by simp)
                      · rw [if_neg c8] at H
                        exact absurd H (by simp)
                    · rw [if_neg c7] at H
                      exact absurd H (by simp)
                  · rw [if_neg c6] at H
                    exact absurd H (by simp)
                · rw [if_neg c5] at H
                  exact absurd H (by simp)
              · rw [if_neg c4] at H
                have c4b0 : decide (0 ≤ x6_2) = false := decide_eq_false c4
                clear c4
                by_cases c11 : x3_1.length < 5864062014805
                · rw [if_pos c11] at H
                  have LMc11 := Aside0.mk c11
                  clear c11
                  obtain ⟨y302, hy302⟩ : ∃ y_ : List (List Int), y_ = (x3_1 ++ [x5_2]) := ⟨_, rfl⟩
                  replace H : (tangramref11_Mirror.l0 k2 l0 y302 (wrap64 (x4_1 + 1))) = some r := by first | (rw [hy302]; with_reducible exact H) | (have H2_ := (Option.bind_some _ _).symm.trans H; rw [hy302]; with_reducible exact H2_) | (have H2_ := (Option.bind_some _ _).symm.trans H; with_reducible exact H2_) | with_reducible exact H | (rw [hy302]; exact H) | exact H
                  have Ny302 := Aside0.mk hy302
                  clear hy302
                  have H' := Aside0.mk H
                  clear H
                  obtain ⟨Ao13, co13, eo13⟩ := Kd.R_slice HO_5.out
                  subst eo13
                  go_wp2_with (first | ((with_reducible refine gate_builtin (b := .append) (xs := #[.tmp 33, .tmp 35]) rfl ?_); at_builtin; refine Kd.S_append (Kd.slice 3 (Kd.int .i64)) (w0 := w) w.heap.size rfl (.tmp 33) (.tmp 35) 26 28 (.slice none 0 0) 24 rfl Try.underlying26 info28 rfl (by decide) (by omega) u3 x3_1 x5_2 [.slice Ao13 x5_2.length co13] (fun _ => True) (fun k_ => some k_ = (.slice Ao13 x5_2.length co13 : Value).ownBlock) rfl rfl ?aP (fun k_ hk_ => ((Kd.R_mono (ok' := fun k_ => ((fun _ => True)) k_ ∧ some k_ ≠ (u3 : Value).ownBlock) (Kd.R_apart' (HO_5.out) (Kd.S_typed HO_3.out) (by decide)) (fun k_ hk => ⟨trivial, hk.2⟩))).1 k_ hk_.symm) ?aF ?aO ?aB ?aS ?aL ?_; (case aP => exact Kd.M_row (Kd.R_mono (Kd.R_tight rfl (Kd.R_mono (ok' := fun k_ => ((fun _ => True)) k_ ∧ some k_ ≠ (u3 : Value).ownBlock) (Kd.R_apart' (HO_5.out) (Kd.S_typed HO_3.out) (by decide)) (fun k_ hk => ⟨trivial, hk.2⟩))) (fun _ h_ => h_))); (case aB => exact (by repeat (first | (with_reducible first | exact HB.out | apply below_alloc | apply pw_below_drewN | apply below_drew1) | exact HB.out))); (case aF => exact (fun _ _ => trivial)); (case aO => exact (by (with_reducible repeat (first | apply Kd.S_alloc | apply Kd.S_drewN | apply Kd.S_drew)); exact Kd.S_mono HO_3.out (fun k_ hk => ⟨trivial, fun e_ => hk e_⟩))); (case aS => exact (below_size (by repeat (first | (with_reducible first | exact HB.out | apply below_alloc | apply pw_below_drewN | apply below_drew1) | exact HB.out)))); (case aL => have := LMc11.out; omega); intro v303 w12 ho hb hg hat; rw [← Ny302.out] at ho; have n0_ := Aside0.mk (hb); have n1_ := Aside0.mk (ho); clear HB; clear HO_3; clear HO_5; have HB := n0_; have HO304 := n1_; clear n0_ n1_; clear ho hb hg hat))
                  go_roundg k2
                  case measure => have := HK1.out; have := HK2.out; omega
                  case rel => exact ⟨(y302), (wrap64 (x4_1 + 1)), (by first | rfl | (simp; done) | (simp [*]; done)), H', ⟨by have := HK1.out; have := HK2.out; omega⟩, ⟨by (with_reducible repeat (first | apply Kd.S_alloc | apply Kd.S_drewN | apply Kd.S_drew)); exact HO304.out⟩, ⟨by repeat (first | (with_reducible first | exact HB.out | apply below_alloc | apply pw_below_drewN | apply below_drew1) | exact HB.out)⟩⟩
                · rw [if_neg c11] at H
                  exact absurd H (by simp)
        · rw [if_neg c3] at H
          exact absurd H (by simp)
      · rw [if_neg c2] at H
        have c2b0 : decide (x4_1 < (l0.length : Int)) = false := decide_eq_false c2
        clear c2
        replace H := Option.bind_eq_some_iff.mp H
        obtain ⟨t293, A140, H⟩ := H
        replace H : (some t293) = some r := H
        have A14 := Aside0.mk A140
        clear A140
        obtain rfl := Option.some.inj H
        obtain ⟨Ao15, co15, eo15⟩ := Kd.S_slice HO_3.out
        subst eo15
        go_wp2_with (first | ((with_reducible refine gate_callee (f := 26) rfl ?_); refine goesL_ (some 38) rfl rfl Try.func26 (by kernel_rfl) rfl #[.slice Ao15 x3_1.length co15] rfl (by (try simp only [List.map_toArray, List.map_cons, List.map_nil]); first | done | rfl | (simp only [List.length_drop, List.length_take]; rfl)) ?_; (with_reducible refine (tangramref11_Canon.calls k1 _ _ x3_1 t293 _ ?side1 ?side2 A14.out).mono ?_); (case side1 => repeat (first | exact (Kd.S_reads' HO_3.out).2.2 | (with_reducible refine Kd.C_alloc ?_ _) | (with_reducible refine Kd.C_drewN ?_ _) | (with_reducible refine Kd.C_drew ?_))); (case side2 => exact (Kd.S_reads' HO_3.out).2.1); rintro e w16 ⟨v294, rfl, ho0, hb⟩; refine ⟨_, rfl, ?_⟩; have n0_ := Aside0.mk (Kd.S_elder' (by (with_reducible repeat (first | apply Kd.S_alloc | apply Kd.S_drewN | apply Kd.S_drew)); exact HO_3.out) (Kd.S_base ho0) hb); have n1_ := Aside0.mk (Kd.S_lower (Kd.S_new' ho0 (Kd.S_lt (by (with_reducible repeat (first | apply Kd.S_alloc | apply Kd.S_drewN | apply Kd.S_drew)); exact HO_3.out))) (below_size (by repeat (first | (with_reducible first | exact HB.out | apply below_alloc | apply pw_below_drewN | apply below_drew1) | exact HB.out)))); have n2_ := Aside0.mk (below_step (by repeat (first | (with_reducible first | exact HB.out | apply below_alloc | apply pw_below_drewN | apply below_drew1) | exact HB.out)) hb); clear HO_3; clear HB; have HO_3 := n0_; have HO295 := n1_; have HB := n2_; clear n0_ n1_ n2_; (try clear hb); (try clear hb2); (try clear hk); (try clear hi); (try clear ho0)))
        go_ret
        exact ⟨_, by first | rfl | (simp [errW_none, errW_some] <;> rfl) | (simp [*, errW_none, errW_some] <;> rfl), by (with_reducible repeat (first | apply Kd.S_alloc | apply Kd.S_drewN | apply Kd.S_drew)); exact Kd.S_mono HO295.out (fun _ hk => trivial), by repeat (first | (with_reducible first | exact HB.out | apply below_alloc | apply pw_below_drewN | apply below_drew1) | exact HB.out)⟩

end Go.Proofs.Ytkkhhbegeboonaa.GAll
-- Written by a program of this session (wip/tools/printx.py) over the kit's printer and texts of its own; it is no print of print.sh.


namespace Go.Proofs.Ytkkhhbegeboonaa.GAll
open Go.RowKit Go.Proofs.YtkkhhbegeboonaaW.PrintWords Go.Proofs.YtkkhhbegeboonaaW.PrintLast Go.Proofs.YtkkhhbegeboonaaW.PrintMore
attribute [local go_sem] max2_int min2_int max_two min_two max_three min_three max_four min_four   -- for this text's walks alone
set_option linter.unusedVariables false
set_option linter.unusedSimpArgs false

/-! ### tangramref11_Equal: function 21 -/
def tangramref11_Equal.l0 : Nat → List (List Int) → List (List Int) → Int → Option (Bool)
  | 0, _, _, _ => none
  | k + 1, x0, x1, x5 => if x5 < (x0.length : Int) then (if 0 ≤ x5 then (if x5 < (x1.length : Int) then ((tangramref11_Alike.f k (rd_L4 x0 x5) (rd_L4 x1 x5)).bind fun t133 => (if t133 = true then (tangramref11_Equal.l0 k x0 x1 (wrap64 (x5 + 1))) else (some false))) else (none)) else (none)) else (some true)
def tangramref11_Equal.f (k : Nat) (l0 : List (List Int)) (l1 : List (List Int)) : Option (Bool) := if (l0.length : Int) = (l1.length : Int) then (tangramref11_Equal.l0 k l0 l1 0) else (some false)
theorem tangramref11_Equal.mono_l : ∀ k, (∀ y0 y1 y2, LeO (tangramref11_Equal.l0 k y0 y1 y2) (tangramref11_Equal.l0 (k + 1) y0 y1 y2))
  | 0 => fun _ _ _ r h => by simp [tangramref11_Equal.l0] at h
  | k + 1 => by
    have ih0 := tangramref11_Equal.mono_l k
    · intro y0 y1 y2
      unfold tangramref11_Equal.l0
      repeat' first
      | (with_reducible exact ih0 _ _ _)
      | (with_reducible exact tangramref11_Alike.mono _ _ _)
      | (with_reducible exact LeO.refl _)
      | (with_reducible exact LeO.none _)
      | (with_reducible refine LeO.ite ?_ ?_)
      | (with_reducible refine LeO.bind ?_ (fun _ => ?_))
      | exact ih0 _ _ _
      | exact tangramref11_Alike.mono _ _ _
      | exact LeO.none _
      | refine LeO.ite ?_ ?_
      | refine LeO.bind ?_ (fun _ => ?_)
theorem tangramref11_Equal.mono : ∀ a0 a1 k, LeO (tangramref11_Equal.f k a0 a1) (tangramref11_Equal.f (k + 1) a0 a1) := by
  intro a0 a1 k
  have ih0 := tangramref11_Equal.mono_l k
  unfold tangramref11_Equal.f
  repeat' first
      | (with_reducible exact ih0 _ _ _)
      | (with_reducible exact tangramref11_Alike.mono _ _ _)
      | (with_reducible exact LeO.refl _)
      | (with_reducible exact LeO.none _)
      | (with_reducible refine LeO.ite ?_ ?_)
      | (with_reducible refine LeO.bind ?_ (fun _ => ?_))
      | exact ih0 _ _ _
      | exact tangramref11_Alike.mono _ _ _
      | exact LeO.none _
      | refine LeO.ite ?_ ?_
      | refine LeO.bind ?_ (fun _ => ?_)
set_option maxHeartbeats 8000000 in
set_option maxRecDepth 100000 in
theorem tangramref11_Equal.calls (k : Nat) (A0 : Option Addr) (c0 : Nat) (l0 : List (List Int)) (A1 : Option Addr) (c1 : Nat) (l1 : List (List Int)) (r : Bool) (w : World) (hr0 : Kd.C (Kd.slice 3 (Kd.int .i64)) w A0 l0.length l0) (hc0 : l0.length ≤ c0) (hr1 : Kd.C (Kd.slice 3 (Kd.int .i64)) w A1 l1.length l1) (hc1 : l1.length ≤ c1) (h : tangramref11_Equal.f k l0 l1 = some r) :
    Calls Try.prog 21 #[.slice A0 l0.length c0, .slice A1 l1.length c1] w fun e w' => e = .returned (.bool r) ∧ Drawn0 w w' := by
  have HR0 := Aside0.mk hr0
  have HC0 := Aside0.mk hc0
  clear hr0 hc0
  have HR1 := Aside0.mk hr1
  have HC1 := Aside0.mk hc1
  clear hr1 hc1
  have H : (if (l0.length : Int) = (l1.length : Int) then (tangramref11_Equal.l0 k l0 l1 0) else (some false)) = some r := h
  clear h
  by_cases c3 : (l0.length : Int) = (l1.length : Int)
  · rw [if_pos c3] at H
    have c3b0 : ((l0.length : Int) == (l1.length : Int)) = true := beq_iff_eq.mpr c3
    have c3b1 : ((l0.length : Int) != (l1.length : Int)) = false := bne_eq_false_iff_eq.mpr c3
    have c3b2 : (l0.length == l1.length) = true := by first | simpa using c3 | (simp at c3 ⊢; omega)
    clear c3
    have H' := Aside0.mk H
    clear H
    go_enter Try.func21, Try.ntmps21
    go_wp2
    repeat (go_quiet (fail); try go_wp2)
    go_loopg [5] k (fun kq v5 w' => ∃ (x5_1 : Int), v5 = .int .i64 x5_1 ∧ Aside0 (tangramref11_Equal.l0 kq l0 l1 x5_1 = some r) ∧ Aside0 (kq ≤ k) ∧ Drawn0 w w')
    case atStart => exact ⟨(0), (by first | rfl | (simp; done) | (simp [*]; done)), H', ⟨Nat.le_refl _⟩, by repeat (first | exact Drawn0.refl _ | apply Drawn0.step)⟩
    case round =>
      clear H'
      try clear c1
      try clear c2
      try clear p2
      try clear c3
      try clear c3b0
      try clear c3b1
      try clear c3b2
      obtain ⟨x5_1, rfl, HA, HK1, ⟨m1, rfl⟩⟩ := hrel
      cases gk with
      | zero => exact absurd HA.out (by simp [tangramref11_Equal.l0])
      | succ k1 =>
        have H := HA.out
        clear HA
        simp only [tangramref11_Equal.l0] at H
        by_cases c4 : x5_1 < (l0.length : Int)
        · rw [if_pos c4] at H
          have c4b0 : decide (x5_1 < (l0.length : Int)) = true := decide_eq_true c4
          clear c4
          by_cases c5 : 0 ≤ x5_1
          · rw [if_pos c5] at H
            have c5b0 : decide (0 ≤ x5_1) = true := decide_eq_true c5
            clear c5
            by_cases c6 : x5_1 < (l1.length : Int)
            · rw [if_pos c6] at H
              have c6b0 : decide (x5_1 < (l1.length : Int)) = true := decide_eq_true c6
              clear c6
              replace H := Option.bind_eq_some_iff.mp H
              obtain ⟨t133, A70, H⟩ := H
              replace H : (if t133 = true then (tangramref11_Equal.l0 k1 l0 l1 (wrap64 (x5_1 + 1))) else (some false)) = some r := H
              have A7 := Aside0.mk A70
              clear A70
              by_cases c8 : t133 = true
              · subst c8
                have H1 : (tangramref11_Equal.l0 k1 l0 l1 (wrap64 (x5_1 + 1))) = some r := by rw [if_pos rfl] at H; exact H
                clear H
                have H := H1
                clear H1
                have H' := Aside0.mk H
                clear H
                have p131 : 0 ≤ (x5_1 : Int) := of_decide_eq_true (by first | (with_reducible assumption) | assumption)
                have q131 : x5_1 < (l0.length : Int) := of_decide_eq_true (by first | (with_reducible assumption) | assumption)
                obtain ⟨ad131, A131_0, c131_0, e131, hx131_0, hl131_0, hi131_0⟩ := at_L4 HR0.out x5_1 p131 q131
                cases e131
                have HR131_0 := Aside0.mk hi131_0
                have HC131_0 := Aside0.mk hl131_0
                clear hi131_0 hl131_0
                replace p131 := eq_true p131
                replace q131 := eq_true q131
                have p132 : 0 ≤ (x5_1 : Int) := of_decide_eq_true (by first | (with_reducible assumption) | assumption)
                have q132 : x5_1 < (l1.length : Int) := of_decide_eq_true (by first | (with_reducible assumption) | assumption)
                obtain ⟨ad132, A132_0, c132_0, e132, hx132_0, hl132_0, hi132_0⟩ := at_L4 HR1.out x5_1 p132 q132
                cases e132
                have HR132_0 := Aside0.mk hi132_0
                have HC132_0 := Aside0.mk hl132_0
                clear hi132_0 hl132_0
                replace p132 := eq_true p132
                replace q132 := eq_true q132
                go_wp2_with (first | (go_at_call 20; (with_reducible refine (tangramref11_Alike.calls k1 _ _ (rd_L4 l0 x5_1) _ _ (rd_L4 l1 x5_1) true _ ?side1 ?side2 ?side3 ?side4 A7.out).mono ?_); (case side1 => repeat (first | exact HR131_0.out | (with_reducible refine Kd.C_alloc ?_ _) | (with_reducible refine Kd.C_drewN ?_ _) | (with_reducible refine Kd.C_drew ?_))); (case side2 => exact HC131_0.out); (case side3 => repeat (first | exact HR132_0.out | (with_reducible refine Kd.C_alloc ?_ _) | (with_reducible refine Kd.C_drewN ?_ _) | (with_reducible refine Kd.C_drew ?_))); (case side4 => exact HC132_0.out); rintro e w' ⟨rfl, ⟨nd, rfl⟩⟩; (try first | exact ⟨rfl, _, World.drewN_drewN _ _ _⟩ | exact ⟨rfl, _, Eq.trans (World.drewN_drewN _ _ _) (congrArg (World.drewN _) (Nat.add_assoc _ _ _))⟩)))
                repeat (go_quiet (first | (go_at_call 20; (with_reducible refine (tangramref11_Alike.calls k1 _ _ (rd_L4 l0 x5_1) _ _ (rd_L4 l1 x5_1) true _ ?side1 ?side2 ?side3 ?side4 A7.out).mono ?_); (case side1 => repeat (first | exact HR131_0.out | (with_reducible refine Kd.C_alloc ?_ _) | (with_reducible refine Kd.C_drewN ?_ _) | (with_reducible refine Kd.C_drew ?_))); (case side2 => exact HC131_0.out); (case side3 => repeat (first | exact HR132_0.out | (with_reducible refine Kd.C_alloc ?_ _) | (with_reducible refine Kd.C_drewN ?_ _) | (with_reducible refine Kd.C_drew ?_))); (case side4 => exact HC132_0.out); rintro e w' ⟨rfl, ⟨nd, rfl⟩⟩; (try first | exact ⟨rfl, _, World.drewN_drewN _ _ _⟩ | exact ⟨rfl, _, Eq.trans (World.drewN_drewN _ _ _) (congrArg (World.drewN _) (Nat.add_assoc _ _ _))⟩))); try go_wp2_with (first | (go_at_call 20; (with_reducible refine (tangramref11_Alike.calls k1 _ _ (rd_L4 l0 x5_1) _ _ (rd_L4 l1 x5_1) true _ ?side1 ?side2 ?side3 ?side4 A7.out).mono ?_); (case side1 => repeat (first | exact HR131_0.out | (with_reducible refine Kd.C_alloc ?_ _) | (with_reducible refine Kd.C_drewN ?_ _) | (with_reducible refine Kd.C_drew ?_))); (case side2 => exact HC131_0.out); (case side3 => repeat (first | exact HR132_0.out | (with_reducible refine Kd.C_alloc ?_ _) | (with_reducible refine Kd.C_drewN ?_ _) | (with_reducible refine Kd.C_drew ?_))); (case side4 => exact HC132_0.out); rintro e w' ⟨rfl, ⟨nd, rfl⟩⟩; (try first | exact ⟨rfl, _, World.drewN_drewN _ _ _⟩ | exact ⟨rfl, _, Eq.trans (World.drewN_drewN _ _ _) (congrArg (World.drewN _) (Nat.add_assoc _ _ _))⟩))))
                go_roundg k1
                case measure => have := HK1.out; omega
                case rel => exact ⟨(wrap64 (x5_1 + 1)), (by first | rfl | (simp; done) | (simp [*]; done)), H', ⟨by have := HK1.out; omega⟩, by repeat (first | exact Drawn0.refl _ | apply Drawn0.step)⟩
              · replace c8 := Bool.eq_false_iff.mpr c8
                subst c8
                have H1 : (some false) = some r := by rw [if_neg (show ¬ (false = true) by decide)] at H; exact H
                clear H
                have H := H1
                clear H1
                obtain rfl := Option.some.inj H
                have p131 : 0 ≤ (x5_1 : Int) := of_decide_eq_true (by first | (with_reducible assumption) | assumption)
                have q131 : x5_1 < (l0.length : Int) := of_decide_eq_true (by first | (with_reducible assumption) | assumption)
                obtain ⟨ad131, A131_0, c131_0, e131, hx131_0, hl131_0, hi131_0⟩ := at_L4 HR0.out x5_1 p131 q131
                cases e131
                have HR131_0 := Aside0.mk hi131_0
                have HC131_0 := Aside0.mk hl131_0
                clear hi131_0 hl131_0
                replace p131 := eq_true p131
                replace q131 := eq_true q131
                have p132 : 0 ≤ (x5_1 : Int) := of_decide_eq_true (by first | (with_reducible assumption) | assumption)
                have q132 : x5_1 < (l1.length : Int) := of_decide_eq_true (by first | (with_reducible assumption) | assumption)
                obtain ⟨ad132, A132_0, c132_0, e132, hx132_0, hl132_0, hi132_0⟩ := at_L4 HR1.out x5_1 p132 q132
                cases e132
                have HR132_0 := Aside0.mk hi132_0
                have HC132_0 := Aside0.mk hl132_0
                clear hi132_0 hl132_0
                replace p132 := eq_true p132
                replace q132 := eq_true q132
                go_wp2_with (first | (go_at_call 20; (with_reducible refine (tangramref11_Alike.calls k1 _ _ (rd_L4 l0 x5_1) _ _ (rd_L4 l1 x5_1) false _ ?side1 ?side2 ?side3 ?side4 A7.out).mono ?_); (case side1 => repeat (first | exact HR131_0.out | (with_reducible refine Kd.C_alloc ?_ _) | (with_reducible refine Kd.C_drewN ?_ _) | (with_reducible refine Kd.C_drew ?_))); (case side2 => exact HC131_0.out); (case side3 => repeat (first | exact HR132_0.out | (with_reducible refine Kd.C_alloc ?_ _) | (with_reducible refine Kd.C_drewN ?_ _) | (with_reducible refine Kd.C_drew ?_))); (case side4 => exact HC132_0.out); rintro e w' ⟨rfl, ⟨nd, rfl⟩⟩; (try first | exact ⟨rfl, _, World.drewN_drewN _ _ _⟩ | exact ⟨rfl, _, Eq.trans (World.drewN_drewN _ _ _) (congrArg (World.drewN _) (Nat.add_assoc _ _ _))⟩)))
                repeat (go_quiet (first | (go_at_call 20; (with_reducible refine (tangramref11_Alike.calls k1 _ _ (rd_L4 l0 x5_1) _ _ (rd_L4 l1 x5_1) false _ ?side1 ?side2 ?side3 ?side4 A7.out).mono ?_); (case side1 => repeat (first | exact HR131_0.out | (with_reducible refine Kd.C_alloc ?_ _) | (with_reducible refine Kd.C_drewN ?_ _) | (with_reducible refine Kd.C_drew ?_))); (case side2 => exact HC131_0.out); (case side3 => repeat (first | exact HR132_0.out | (with_reducible refine Kd.C_alloc ?_ _) | (with_reducible refine Kd.C_drewN ?_ _) | (with_reducible refine Kd.C_drew ?_))); (case side4 => exact HC132_0.out); rintro e w' ⟨rfl, ⟨nd, rfl⟩⟩; (try first | exact ⟨rfl, _, World.drewN_drewN _ _ _⟩ | exact ⟨rfl, _, Eq.trans (World.drewN_drewN _ _ _) (congrArg (World.drewN _) (Nat.add_assoc _ _ _))⟩))); try go_wp2_with (first | (go_at_call 20; (with_reducible refine (tangramref11_Alike.calls k1 _ _ (rd_L4 l0 x5_1) _ _ (rd_L4 l1 x5_1) false _ ?side1 ?side2 ?side3 ?side4 A7.out).mono ?_); (case side1 => repeat (first | exact HR131_0.out | (with_reducible refine Kd.C_alloc ?_ _) | (with_reducible refine Kd.C_drewN ?_ _) | (with_reducible refine Kd.C_drew ?_))); (case side2 => exact HC131_0.out); (case side3 => repeat (first | exact HR132_0.out | (with_reducible refine Kd.C_alloc ?_ _) | (with_reducible refine Kd.C_drewN ?_ _) | (with_reducible refine Kd.C_drew ?_))); (case side4 => exact HC132_0.out); rintro e w' ⟨rfl, ⟨nd, rfl⟩⟩; (try first | exact ⟨rfl, _, World.drewN_drewN _ _ _⟩ | exact ⟨rfl, _, Eq.trans (World.drewN_drewN _ _ _) (congrArg (World.drewN _) (Nat.add_assoc _ _ _))⟩))))
                go_ret
                exact ⟨by first | rfl | (simp; done) | (simp [*]; done), by repeat (first | exact Drawn0.refl _ | apply Drawn0.step)⟩
            · rw [if_neg c6] at H
              exact absurd H (by simp)
          · rw [if_neg c5] at H
            exact absurd H (by simp)
        · rw [if_neg c4] at H
          have c4b0 : decide (x5_1 < (l0.length : Int)) = false := decide_eq_false c4
          clear c4
          obtain rfl := Option.some.inj H
          go_wp2
          repeat (go_quiet (fail); try go_wp2)
          go_ret
          exact ⟨by first | rfl | (simp; done) | (simp [*]; done), by repeat (first | exact Drawn0.refl _ | apply Drawn0.step)⟩
  · rw [if_neg c3] at H
    have c3b0 : ((l0.length : Int) == (l1.length : Int)) = false := beq_eq_false_iff_ne.mpr c3
    have c3b1 : ((l0.length : Int) != (l1.length : Int)) = true := bne_iff_ne.mpr c3
    have c3b2 : (l0.length == l1.length) = false := by first | simpa using c3 | (simp at c3 ⊢; omega)
    obtain rfl := Option.some.inj H
    go_enter Try.func21, Try.ntmps21
    go_wp2
    repeat (go_quiet (fail); try go_wp2)
    go_ret
    exact ⟨by first | rfl | (simp; done) | (simp [*]; done), by repeat (first | exact Drawn0.refl _ | apply Drawn0.step)⟩

end Go.Proofs.Ytkkhhbegeboonaa.GAll
/- DERIVED. Lists of lists: what the printed forms of the document's functions of rotations answer. No program. -/






namespace Go.Proofs.Ytkkhhbegeboonaa.Rot
open Go.RowKit Go.Proofs.YtkkhhbegeboonaaW.PrintWords Go.Proofs.YtkkhhbegeboonaaW.PrintLast Go.Proofs.YtkkhhbegeboonaaW.PrintMore Go.Proofs.Ytkkhhbegeboonaa.GAll Go.Proofs.Ytkkhhbegeboonaa.Mem
set_option linter.unusedVariables false
set_option linter.unusedSimpArgs false
theorem w1 {i : Nat} (h : i < 9223372036854775807) : wrap64 ((i : Int) + 1) = ((i + 1 : Nat) : Int) := by rw [IntWalk.wrap64_in _ (by omega)]; omega
theorem rd_L {r : List (List Int)} (i : Nat) : rd_L4 r (i : Int) = gl r i := by unfold gl; show r.getD (i : Int).toNat [] = _; rw [Int.toNat_natCast]
theorem gi_get {l : List Int} {i : Nat} (h : i < l.length) : gi l i = l[i] := by unfold gi; rw [List.getD_eq_getElem?_getD, List.getElem?_eq_getElem h]; rfl
theorem gl_get {r : List (List Int)} {i : Nat} (h : i < r.length) : gl r i = r[i] := by unfold gl; rw [List.getD_eq_getElem?_getD, List.getElem?_eq_getElem h]; rfl
theorem gl_mem {r : List (List Int)} {i : Nat} (h : i < r.length) : gl r i ∈ r := by rw [gl_get h]; exact List.getElem_mem h
theorem alike_ev {a b : List Int} (hm : a.length ≤ 9223372036854775807) : Ev (fun k => tangramref11_Alike.f k a b) (decide (a = b)) := by
  by_cases h : a.length = b.length
  · have loop : ∀ (d i : Nat), i + d = a.length → a.take i = b.take i → Ev (fun k => tangramref11_Alike.l0 k a b (i : Int)) (decide (a = b)) := by
      intro d
      induction d with
      | zero =>
        intro i hi ht
        rw [List.take_of_length_le (by omega), List.take_of_length_le (by omega)] at ht
        rw [decide_eq_true ht]
        refine Ev.step (f := fun _ => some true) (fun k => ?_) (Ev.now _)
        simp only [tangramref11_Alike.l0]
        rw [if_neg (by omega)]
      | succ d ih =>
        intro i hi ht
        have hx : i < a.length := by omega
        have hy : i < b.length := by omega
        by_cases e : a[i] = b[i]
        · refine Ev.step (fun k => ?_) (ih (i + 1) (by omega) (by rw [List.take_succ_eq_append_getElem hx, List.take_succ_eq_append_getElem hy, ht, e]))
          simp only [tangramref11_Alike.l0]
          rw [if_pos (by omega), if_pos (by omega), if_pos (by omega), gi_rd, gi_rd, gi_get hx, gi_get hy, if_pos e, w1 (by omega)]
        · rw [decide_eq_false (by rintro rfl; exact e rfl)]
          refine Ev.step (f := fun _ => some false) (fun k => ?_) (Ev.now _)
          simp only [tangramref11_Alike.l0]
          rw [if_pos (by omega), if_pos (by omega), if_pos (by omega), gi_rd, gi_rd, gi_get hx, gi_get hy, if_neg e]
    have := loop a.length 0 (by omega) rfl
    unfold tangramref11_Alike.f
    exact Ev.congr (fun k => if_pos (by omega)) this
  · rw [decide_eq_false (fun e => h (by rw [e]))]
    unfold tangramref11_Alike.f
    exact Ev.congr (fun k => if_neg (by omega)) (Ev.now _)
/-- a list of lists that is no longer than what comes in -/
def Small (r : List (List Int)) : Prop := r.length * 24 ≤ 140737488351232 ∧ ∀ l ∈ r, l.length * 8 ≤ 140737488351232
theorem Small.at {r : List (List Int)} (h : Small r) {i : Nat} (hi : i < r.length) : (gl r i).length * 8 ≤ 140737488351232 := h.2 _ (gl_mem hi)
theorem equal_ev {x y : List (List Int)} (hx : Small x) : Ev (fun k => tangramref11_Equal.f k x y) (decide (x = y)) := by
  have h1 := hx.1
  by_cases h : x.length = y.length
  · have loop : ∀ (d i : Nat), i + d = x.length → x.take i = y.take i → Ev (fun k => tangramref11_Equal.l0 k x y (i : Int)) (decide (x = y)) := by
      intro d
      induction d with
      | zero =>
        intro i hi ht
        rw [List.take_of_length_le (by omega), List.take_of_length_le (by omega)] at ht
        rw [decide_eq_true ht]
        refine Ev.step (f := fun _ => some true) (fun k => ?_) (Ev.now _)
        simp only [tangramref11_Equal.l0]
        rw [if_neg (by omega)]
      | succ d ih =>
        intro i hi ht
        have hxl : i < x.length := by omega
        have hyl : i < y.length := by omega
        have ha := alike_ev (a := gl x i) (b := gl y i) (by have := hx.at hxl; omega)
        by_cases e : gl x i = gl y i
        · rw [decide_eq_true e] at ha
          have hI := ih (i + 1) (by omega) (by rw [List.take_succ_eq_append_getElem hxl, List.take_succ_eq_append_getElem hyl, ht, ← gl_get hxl, ← gl_get hyl, e])
          refine Ev.step (f := fun k => (tangramref11_Alike.f k (gl x i) (gl y i)).bind fun t => if t = true then tangramref11_Equal.l0 k x y ((i + 1 : Nat) : Int) else some false) (fun k => ?_) (Ev.bind ha (Ev.congr (fun k => if_pos rfl) hI))
          simp only [tangramref11_Equal.l0]
          rw [if_pos (by omega), if_pos (by omega), if_pos (by omega), rd_L, rd_L, w1 (by omega)]
        · rw [decide_eq_false e] at ha
          rw [decide_eq_false (by rintro rfl; exact e rfl)]
          refine Ev.step (f := fun k => (tangramref11_Alike.f k (gl x i) (gl y i)).bind fun t => if t = true then tangramref11_Equal.l0 k x y ((i + 1 : Nat) : Int) else some false) (fun k => ?_) (Ev.bind ha (Ev.congr (fun k => if_neg (by decide)) (Ev.now _)))
          simp only [tangramref11_Equal.l0]
          rw [if_pos (by omega), if_pos (by omega), if_pos (by omega), rd_L, rd_L, w1 (by omega)]
    have := loop x.length 0 (by omega) rfl
    unfold tangramref11_Equal.f
    exact Ev.congr (fun k => if_pos (by omega)) this
  · rw [decide_eq_false (fun e => h (by rw [e]))]
    unfold tangramref11_Equal.f
    exact Ev.congr (fun k => if_neg (by omega)) (Ev.now _)
theorem turn_at {l : List Int} {a i : Nat} (ha : a < l.length) (hi : i < l.length) : gi l ((a + i) % l.length) = (l.drop a ++ l.take a)[i]'(by simp; omega) := by
  rw [List.getElem_append]
  rcases Nat.lt_or_ge (a + i) l.length with h | h
  · rw [Nat.mod_eq_of_lt h, gi_get h, dif_pos (by simp; omega)]
    simp
  · have e : (a + i) % l.length = a + i - l.length := by rw [Nat.mod_eq_sub_mod h, Nat.mod_eq_of_lt (by omega)]
    rw [e, gi_get (by omega), dif_neg (by simp; omega)]
    simp only [List.getElem_take, List.length_drop]
    congr 1
    omega
theorem turned_ev {l : List Int} {a : Nat} (hl : l.length * 8 ≤ 140737488351232) (ha : a < l.length ∨ l.length = 0 ∧ a = 0) : Ev (fun k => tangramref11_Turned.f k l (a : Int)) (l.drop a ++ l.take a) := by
  have hlen : (l.drop a ++ l.take a).length = l.length := by simp; omega
  have loop : ∀ (d i : Nat), i + d = l.length → Ev (fun k => tangramref11_Turned.l0 k l (a : Int) ((l.drop a ++ l.take a).take i) (i : Int)) (l.drop a ++ l.take a) := by
    intro d
    induction d with
    | zero =>
      intro i hi
      refine Ev.step (f := fun _ => some (l.drop a ++ l.take a)) (fun k => ?_) (Ev.now _)
      simp only [tangramref11_Turned.l0]
      rw [if_neg (by omega), List.take_of_length_le (by omega)]
    | succ d ih =>
      intro i hi
      have ha2 : a < l.length := by omega
      refine Ev.step (fun k => ?_) (ih (i + 1) (by omega))
      have hm := Nat.mod_lt (a + i) (show 0 < l.length by omega)
      have et : Int.tmod ((a : Int) + (i : Int)) (l.length : Int) = (((a + i) % l.length : Nat) : Int) := by rw [show (a : Int) + (i : Int) = ((a + i : Nat) : Int) by omega]; rfl
      simp only [tangramref11_Turned.l0]
      rw [if_pos (by omega), if_neg (by omega), IntWalk.wrap64_in _ (by omega), et, if_pos (by omega), if_pos (by omega), if_pos (by rw [List.length_take]; omega), w1 (by omega), gi_rd, turn_at ha2 (by omega), List.take_succ_eq_append_getElem (by omega)]
  exact loop l.length 0 (by omega)
theorem least_ev {l : List Int} (hl : l.length * 8 ≤ 140737488355328) : Ev (fun k => rot_least.f k l) ((leastAt l : Nat) : Int) := by
  have loop : ∀ (d i : Nat), i + d = l.length → Ev (fun k => rot_least.l0 k l ((leastTo l i : Nat) : Int) l (l.length : Int) (i : Int)) ((leastAt l : Nat) : Int) := by
    intro d
    induction d with
    | zero =>
      intro i hi
      obtain rfl : i = l.length := by omega
      refine Ev.step (f := fun _ => some ((leastAt l : Nat) : Int)) (fun k => ?_) (Ev.now _)
      simp only [rot_least.l0]
      rw [if_neg (by omega)]
      rfl
    | succ d ih =>
      intro i hi
      have h1 := leastTo_le l i
      refine Ev.step (fun k => ?_) (ih (i + 1) (by omega))
      simp only [rot_least.l0]
      rw [if_pos (by omega), if_pos (by omega), if_pos (by omega), if_pos (by omega), if_pos (by omega), gi_rd, gi_rd, w1 (by omega)]
      show _ = rot_least.l0 k l ((if gi l i < gi l (leastTo l i) then i else leastTo l i : Nat) : Int) l (l.length : Int) _
      by_cases c : gi l i < gi l (leastTo l i)
      · rw [if_pos c, if_pos c]
      · rw [if_neg c, if_neg c]
  exact loop l.length 0 (by omega)
theorem least_lt (l : List Int) : leastAt l < l.length ∨ l.length = 0 ∧ leastAt l = 0 := by
  rcases Nat.eq_zero_or_pos l.length with h | h
  · right; exact ⟨h, by unfold leastAt; rw [h]; rfl⟩
  · left; exact leastTo_lt l h
/-- rounds for all of a list -/
theorem all_ev {α β : Type} {g : Nat → α → Option β} {v : α → β} : ∀ (L : List α), (∀ x ∈ L, Ev (fun k => g k x) (v x)) → ∃ K, ∀ k, K ≤ k → ∀ x ∈ L, g k x = some (v x)
  | [], _ => ⟨0, fun k _ x hx => by cases hx⟩
  | x :: L, h => by
    obtain ⟨K1, h1⟩ := h x (List.mem_cons_self ..)
    obtain ⟨K2, h2⟩ := all_ev L (fun y hy => h y (List.mem_cons_of_mem _ hy))
    refine ⟨max K1 K2, fun k hk y hy => ?_⟩
    rcases List.mem_cons.1 hy with rfl | hy
    · exact h1 k (by omega)
    · exact h2 k (by omega) y hy
theorem canon_ev {r : List (List Int)} (h : Small r) : Ev (fun k => rot_Canon.f k r) (r.map turnl) := by
  obtain ⟨K, hK⟩ := all_ev (g := rot_least.f) (v := fun l => ((leastAt l : Nat) : Int)) r (fun l hl => least_ev (by have := h.2 l hl; omega))
  refine ⟨K, fun k hk => ?_⟩
  show rot_Canon.f k r = _
  unfold rot_Canon.f
  rw [if_pos]
  unfold rot_Canon.fit
  have h1 := h.1
  rw [Bool.and_eq_true, List.all_eq_true, decide_eq_true_eq]
  refine ⟨by omega, fun l hl => ?_⟩
  have h2 := h.2 l hl
  rw [Bool.and_eq_true, beq_iff_eq, decide_eq_true_eq]
  exact ⟨hK k hk l hl, by omega⟩
theorem map_take {r : List (List Int)} (f : List Int → List Int) {i : Nat} (h : i < r.length) : (r.map f).take i ++ [f (gl r i)] = (r.map f).take (i + 1) := by
  rw [List.take_succ_eq_append_getElem (by simpa using h), List.getElem_map, gl_get h]
theorem refcanon_ev {r : List (List Int)} (h : Small r) : Ev (fun k => tangramref11_Canon.f k r) (r.map turnl) := by
  have hr := h.1
  have loop : ∀ (d i : Nat), i + d = r.length → Ev (fun k => tangramref11_Canon.l0 k r ((r.map turnl).take i) (i : Int)) (r.map turnl) := by
    intro d
    induction d with
    | zero =>
      intro i hi
      refine Ev.step (f := fun _ => some (r.map turnl)) (fun k => ?_) (Ev.now _)
      simp only [tangramref11_Canon.l0]
      rw [if_neg (by omega), List.take_of_length_le (by simp; omega)]
    | succ d ih =>
      intro i hi
      have hi2 : i < r.length := by omega
      have hb := h.at hi2
      have hlen : ((r.map turnl).take i).length = i := by simp; omega
      obtain ⟨X, hX⟩ : ∃ X, X = (r.map turnl).take i := ⟨_, rfl⟩
      have hT : Ev (fun k => (tangramref11_Turned.f k (gl r i) ((leastAt (gl r i) : Nat) : Int)).bind fun t => if X.length < 5864062014805 then tangramref11_Canon.l0 k r (X ++ [t]) ((i + 1 : Nat) : Int) else none) (r.map turnl) := by
        refine Ev.bind (turned_ev hb (least_lt _)) ?_
        refine Ev.congr (fun k => ?_) (ih (i + 1) (by omega))
        rw [if_pos (by rw [hX, hlen]; omega), hX, ← map_take turnl hi2]
        rfl
      have row : ∀ (e j : Nat), j + e = (gl r i).length → Ev (fun k => tangramref11_Canon.l1 k r X (i : Int) ((leastTo (gl r i) j : Nat) : Int) (j : Int)) (r.map turnl) := by
        intro e
        induction e with
        | zero =>
          intro j hj
          obtain rfl : j = (gl r i).length := by omega
          refine Ev.step (fun k => ?_) hT
          simp only [tangramref11_Canon.l1]
          rw [if_pos (by omega), if_pos (by omega), rd_L, if_neg (by omega), w1 (by omega)]
          rfl
        | succ e ih2 =>
          intro j hj
          have h1 := leastTo_le (gl r i) j
          refine Ev.step (fun k => ?_) (ih2 (j + 1) (by omega))
          simp only [tangramref11_Canon.l1]
          rw [if_pos (by omega), if_pos (by omega), rd_L, if_pos (by omega), if_pos (by omega), if_pos (by omega), if_pos (by omega), gi_rd, gi_rd, w1 (by omega)]
          show _ = tangramref11_Canon.l1 k r X (i : Int) ((if gi (gl r i) j < gi (gl r i) (leastTo (gl r i) j) then j else leastTo (gl r i) j : Nat) : Int) _
          by_cases c : gi (gl r i) j < gi (gl r i) (leastTo (gl r i) j)
          · rw [if_pos c, if_pos c]
          · rw [if_neg c, if_neg c]
      rw [← hX]
      refine Ev.step (fun k => ?_) (row (gl r i).length 0 (by omega))
      simp only [tangramref11_Canon.l0]
      rw [if_pos (by omega)]
      rfl
  exact loop r.length 0 (by omega)
theorem Small.turn {r : List (List Int)} (h : Small r) : Small (r.map turnl) := by
  refine ⟨by rw [List.length_map]; exact h.1, fun l hl => ?_⟩
  obtain ⟨x, hx, rfl⟩ := List.mem_map.1 hl
  rw [turnl_length]
  exact h.2 x hx
theorem Small.rev {r : List (List Int)} (h : Small r) : Small (r.map List.reverse) := by
  refine ⟨by rw [List.length_map]; exact h.1, fun l hl => ?_⟩
  obtain ⟨x, hx, rfl⟩ := List.mem_map.1 hl
  rw [List.length_reverse]
  exact h.2 x hx
theorem gi_reverse {l : List Int} {p : Nat} (h : p < l.length) : gi l.reverse p = gi l (l.length - 1 - p) := by
  rw [gi_get (by simpa using h), gi_get (by omega), List.getElem_reverse]
theorem gi_ext {a b : List Int} (hl : a.length = b.length) (h : ∀ p, p < a.length → gi a p = gi b p) : a = b := by
  refine List.ext_getElem hl fun p h1 h2 => ?_
  rw [← gi_get h1, ← gi_get h2]
  exact h p h1
theorem reverse_ev {l : List Int} (hl : l.length * 8 ≤ 140737488355328) : Ev (fun k => slices_Reverse_int_int.f k l) l.reverse := by
  have loop : ∀ (d i : Nat) (x : List Int), l.length ≤ i + d → x.length = l.length → (∀ p, p < l.length → gi x p = if p < i ∨ l.length - i ≤ p then gi l (l.length - 1 - p) else gi l p) → Ev (fun k => slices_Reverse_int_int.l0 k x (i : Int) ((l.length : Int) - 1 - (i : Int))) l.reverse := by
    have last : ∀ (i : Nat) (x : List Int), ¬ ((i : Int) < (l.length : Int) - 1 - (i : Int)) → x.length = l.length → (∀ p, p < l.length → gi x p = if p < i ∨ l.length - i ≤ p then gi l (l.length - 1 - p) else gi l p) → Ev (fun k => slices_Reverse_int_int.l0 k x (i : Int) ((l.length : Int) - 1 - (i : Int))) l.reverse := by
      intro i x hc hx hp
      have e : x = l.reverse := by
        refine gi_ext (by simpa using hx) fun p hpl => ?_
        rw [hp p (by omega), gi_reverse (by omega)]
        by_cases c : p < i ∨ l.length - i ≤ p
        · rw [if_pos c]
        · rw [if_neg c]; congr 1; omega
      rw [← e]
      refine Ev.step (f := fun _ => some x) (fun k => ?_) (Ev.now _)
      simp only [slices_Reverse_int_int.l0]
      rw [if_neg hc]
    intro d
    induction d with
    | zero => intro i x hi hx hp; exact last i x (by omega) hx hp
    | succ d ih =>
      intro i x hi hx hp
      by_cases hc : (i : Int) < (l.length : Int) - 1 - (i : Int)
      · have hj : (l.length : Int) - 1 - (i : Int) = ((l.length - 1 - i : Nat) : Int) := by omega
        have hI := ih (i + 1) ((x.set i (gi x (l.length - 1 - i))).set (l.length - 1 - i) (gi x i)) (by omega) (List.length_set.trans (List.length_set.trans hx)) (fun p hpl => by
          rw [gi_set, gi_set, List.length_set, hx]
          by_cases c1 : l.length - 1 - i = p
          · subst c1
            rw [if_pos ⟨rfl, hpl⟩, if_pos (by omega), hp i (by omega), if_neg (by omega)]
            congr 1; omega
          · rw [if_neg (fun q => c1 q.1)]
            by_cases c2 : i = p
            · subst c2
              rw [if_pos ⟨rfl, hpl⟩, if_pos (by omega), hp _ (by omega), if_neg (by omega)]
            · rw [if_neg (fun q => c2 q.1), hp p hpl]
              by_cases c3 : p < i ∨ l.length - i ≤ p
              · rw [if_pos c3, if_pos (by omega)]
              · rw [if_neg c3, if_neg (by omega)])
        refine Ev.step (fun k => ?_) hI
        simp only [slices_Reverse_int_int.l0]
        rw [if_pos hc, hj, if_pos (by omega), if_pos (by omega), if_pos (by omega), if_pos (by omega), gi_rd, gi_rd, w1 (by omega), IntWalk.wrap64_in _ (by omega), Int.toNat_natCast, Int.toNat_natCast, show ((l.length - 1 - i : Nat) : Int) - 1 = (l.length : Int) - 1 - ((i + 1 : Nat) : Int) by omega]
      · exact last i x hc hx hp
  unfold slices_Reverse_int_int.f
  have key := loop l.length 0 l (by omega) rfl (fun p hp => by rw [if_neg (by omega)])
  refine Ev.congr (fun k => ?_) key
  rw [IntWalk.wrap64_in _ (by omega), show (l.length : Int) - 1 - ((0 : Nat) : Int) = (l.length : Int) - 1 by omega]
  rfl
theorem mirror_ev {r : List (List Int)} (h : Small r) : Ev (fun k => rot_Mirror.f k r) ((r.map List.reverse).map turnl) := by
  obtain ⟨K1, h1⟩ := all_ev (g := fun k l => rot_least.f k (List.reverse l)) (v := fun l => ((leastAt l.reverse : Nat) : Int)) r (fun l hl => least_ev (by have := h.2 l hl; rw [List.length_reverse]; omega))
  obtain ⟨K2, h2⟩ := all_ev (g := slices_Reverse_int_int.f) (v := List.reverse) r (fun l hl => reverse_ev (by have := h.2 l hl; omega))
  refine ⟨max K1 K2, fun k hk => ?_⟩
  show rot_Mirror.f k r = _
  unfold rot_Mirror.f
  rw [if_pos]
  unfold rot_Mirror.fit
  have h3 := h.1
  rw [Bool.and_eq_true, List.all_eq_true, decide_eq_true_eq]
  refine ⟨by omega, fun l hl => ?_⟩
  have h4 := h.2 l hl
  rw [Bool.and_eq_true, Bool.and_eq_true, beq_iff_eq, beq_iff_eq, decide_eq_true_eq]
  exact ⟨h1 k (by omega) l hl, h2 k (by omega) l hl, by omega⟩
theorem refmirror_ev {r : List (List Int)} (h : Small r) : Ev (fun k => tangramref11_Mirror.f k r) ((r.map List.reverse).map turnl) := by
  have hr := h.1
  have loop : ∀ (d i : Nat), i + d = r.length → Ev (fun k => tangramref11_Mirror.l0 k r ((r.map List.reverse).take i) (i : Int)) ((r.map List.reverse).map turnl) := by
    intro d
    induction d with
    | zero =>
      intro i hi
      refine Ev.step (f := fun k => (tangramref11_Canon.f k (r.map List.reverse)).bind fun t => some t) (fun k => ?_) (Ev.bind (refcanon_ev h.rev) (Ev.now _))
      simp only [tangramref11_Mirror.l0]
      rw [if_neg (by omega), List.take_of_length_le (by simp; omega)]
    | succ d ih =>
      intro i hi
      have hi2 : i < r.length := by omega
      have hb := h.at hi2
      have hlen : ((r.map List.reverse).take i).length = i := by simp; omega
      have hI := ih (i + 1) (by omega)
      rw [← map_take List.reverse hi2] at hI
      obtain ⟨X, hX⟩ : ∃ X, X = (r.map List.reverse).take i := ⟨_, rfl⟩
      rw [← hX] at hI hlen ⊢
      have row : ∀ (e j : Nat), j + e = (gl r i).length → Ev (fun k => tangramref11_Mirror.l1 k r X (i : Int) ((gl r i).reverse.take j) (((gl r i).length : Int) - 1 - (j : Int))) ((r.map List.reverse).map turnl) := by
        intro e
        induction e with
        | zero =>
          intro j hj
          refine Ev.step (fun k => ?_) hI
          simp only [tangramref11_Mirror.l1]
          rw [if_neg (by omega), if_pos (by omega), w1 (by omega), List.take_of_length_le (by simp; omega)]
        | succ e ih2 =>
          intro j hj
          have hj2 : ((gl r i).length : Int) - 1 - (j : Int) = (((gl r i).length - 1 - j : Nat) : Int) := by omega
          refine Ev.step (fun k => ?_) (ih2 (j + 1) (by omega))
          have e1 : (gl r i).reverse.take (j + 1) = (gl r i).reverse.take j ++ [gi (gl r i) ((gl r i).length - 1 - j)] := by
            rw [List.take_succ_eq_append_getElem (by simp; omega), ← gi_reverse (by omega), gi_get (by simp; omega)]
          simp only [tangramref11_Mirror.l1]
          rw [hj2, if_pos (by omega), if_pos (by omega), if_pos (by omega), if_pos (by omega), rd_L, if_pos (by omega), if_pos (by simp; omega), gi_rd, IntWalk.wrap64_in _ (by omega), e1, show (((gl r i).length - 1 - j : Nat) : Int) - 1 = ((gl r i).length : Int) - 1 - ((j + 1 : Nat) : Int) by omega]
      refine Ev.step (fun k => ?_) (row (gl r i).length 0 (by omega))
      simp only [tangramref11_Mirror.l0]
      rw [if_pos (by omega), if_pos (by omega), rd_L, IntWalk.wrap64_in _ (by omega), show ((gl r i).length : Int) - 1 - ((0 : Nat) : Int) = ((gl r i).length : Int) - 1 by omega]
      rfl
  exact loop r.length 0 (by omega)
theorem turnTest_iff {a b : List Int} (h : a.length = b.length) {k : Nat} (hk : k ≤ a.length) : turnTest a b k = decide (a.drop k ++ a.take k = b) := by
  unfold turnTest
  rw [Bool.eq_iff_iff, Bool.and_eq_true, decide_eq_true_eq, decide_eq_true_eq, decide_eq_true_eq]
  have hd : (a.drop k).length = b.length - k := by simp; omega
  constructor
  · rintro ⟨h1, h2⟩
    rw [h1, h2, List.take_append_drop]
  · intro e
    rw [← e, List.take_append_of_le_length (by simp; omega), List.drop_append_of_le_length (by simp; omega)]
    have e2 : (a.drop k ++ a.take k).length - k = (a.drop k).length := by simp; omega
    rw [e2, List.take_length, List.drop_length]
    exact ⟨rfl, rfl⟩
theorem refturn_ev {a b : List Int} (ha : a.length * 8 ≤ 140737488351232) : Ev (fun k => tangramref11_Turn.f k a b) (turnOf a b) := by
  by_cases h0 : a.length = 0
  · have e : ((b.length : Int) == 0) = turnOf a b := by
      unfold turnOf
      rw [zero_beq, decide_eq_true h0, Bool.or_true, Bool.and_true, h0]
      simp only [eq_comm]
    unfold tangramref11_Turn.f
    refine Ev.congr (fun k => ?_) (Ev.now _)
    rw [if_pos (by omega), e]
  · have loop : ∀ (d i : Nat), i + d = a.length → (∀ j, j < i → a.drop j ++ a.take j ≠ b) → Ev (fun k => tangramref11_Turn.l0 k a b (i : Int)) (turnOf a b) := by
      intro d
      induction d with
      | zero =>
        intro i hi hp
        have e : turnOf a b = false := by
          by_cases hl : a.length = b.length
          · rw [turnOf_no hl (fun k hk => by rw [turnTest_iff hl (by omega)]; exact decide_eq_false (hp k (by omega))), decide_eq_false h0]
          · exact turnOf_len hl
        rw [e]
        refine Ev.step (f := fun _ => some false) (fun k => ?_) (Ev.now _)
        simp only [tangramref11_Turn.l0]
        rw [if_neg (by omega)]
      | succ d ih =>
        intro i hi hp
        have hi2 : i < a.length := by omega
        have hA := alike_ev (a := a.drop i ++ a.take i) (b := b) (by simp; omega)
        refine Ev.step (f := fun k => (tangramref11_Turned.f k a (i : Int)).bind fun t => (tangramref11_Alike.f k t b).bind fun t => if t = true then some true else tangramref11_Turn.l0 k a b ((i + 1 : Nat) : Int)) (fun k => ?_) (Ev.bind (turned_ev ha (.inl hi2)) (Ev.bind hA ?_))
        · simp only [tangramref11_Turn.l0]
          rw [if_pos (by omega), w1 (by omega)]
        · by_cases c : a.drop i ++ a.take i = b
          · have hl : a.length = b.length := by rw [← c]; simp; omega
            rw [turnOf_yes hl hi2 (by rw [turnTest_iff hl (by omega)]; exact decide_eq_true c)]
            exact Ev.congr (fun k => if_pos (decide_eq_true c)) (Ev.now _)
          · refine Ev.congr (fun k => if_neg (by simpa using c)) (ih (i + 1) (by omega) (fun j hj => ?_))
            rcases Nat.lt_succ_iff_lt_or_eq.1 hj with q | rfl
            · exact hp j q
            · exact c
    unfold tangramref11_Turn.f
    exact Ev.congr (fun k => if_neg (by omega)) (loop a.length 0 (by omega) (fun j hj => by omega))
theorem refsame_ev {x y : List (List Int)} (h : Small x) : Ev (fun k => tangramref11_Same.f k x y) (sameOf x y) := by
  have hx := h.1
  by_cases hl : x.length = y.length
  · have loop : ∀ (d i : Nat), i + d = x.length → (∀ j, j < i → turnOf (gl x j) (gl y j) = true) → Ev (fun k => tangramref11_Same.l0 k x y (i : Int)) (sameOf x y) := by
      intro d
      induction d with
      | zero =>
        intro i hi hp
        rw [sameOf_yes hl (fun j hj => hp j (by omega))]
        refine Ev.step (f := fun _ => some true) (fun k => ?_) (Ev.now _)
        simp only [tangramref11_Same.l0]
        rw [if_neg (by omega)]
      | succ d ih =>
        intro i hi hp
        have hi2 : i < x.length := by omega
        refine Ev.step (f := fun k => (tangramref11_Turn.f k (gl x i) (gl y i)).bind fun t => if t = true then tangramref11_Same.l0 k x y ((i + 1 : Nat) : Int) else some false) (fun k => ?_) (Ev.bind (refturn_ev (h.at hi2)) ?_)
        · simp only [tangramref11_Same.l0]
          rw [if_pos (by omega), if_pos (by omega), if_pos (by omega), rd_L, rd_L, w1 (by omega)]
        · cases c : turnOf (gl x i) (gl y i) with
          | true =>
            refine Ev.congr (fun k => if_pos rfl) (ih (i + 1) (by omega) (fun j hj => ?_))
            rcases Nat.lt_succ_iff_lt_or_eq.1 hj with q | rfl
            · exact hp j q
            · exact c
          | false =>
            rw [sameOf_no hi2 c]
            exact Ev.congr (fun k => if_neg (by decide)) (Ev.now _)
    unfold tangramref11_Same.f
    exact Ev.congr (fun k => if_pos (by omega)) (loop x.length 0 (by omega) (fun j hj => by omega))
  · rw [sameOf_len hl]
    unfold tangramref11_Same.f
    exact Ev.congr (fun k => if_neg (by omega)) (Ev.now _)
theorem turnOf_self (l : List Int) : turnOf l l = true := by
  rcases Nat.eq_zero_or_pos l.length with h | h
  · unfold turnOf; simp [h]
  · exact turnOf_yes rfl h (by rw [turnTest_iff rfl (by omega)]; simp)
theorem sameOf_self (x : List (List Int)) : sameOf x x = true := sameOf_yes rfl (fun j _ => turnOf_self _)
end Go.Proofs.Ytkkhhbegeboonaa.Rot
/- DERIVED. Turns of lists, and what Canon and Mirror make of a rotation. Plain lists, no program. -/

namespace Go.Proofs.Ytkkhhbegeboonaa.Rot
open Go.RowKit Go.Proofs.YtkkhhbegeboonaaW.PrintWords Go.Proofs.Ytkkhhbegeboonaa.Mem
set_option linter.unusedVariables false
set_option linter.unusedSimpArgs false
def IsTurn (a b : List Int) : Prop := ∃ x y, a = x ++ y ∧ b = y ++ x
theorem IsTurn.refl (a : List Int) : IsTurn a a := ⟨a, [], by simp, by simp⟩
theorem IsTurn.symm {a b : List Int} (h : IsTurn a b) : IsTurn b a := by
  obtain ⟨x, y, h1, h2⟩ := h
  exact ⟨y, x, h2, h1⟩
theorem IsTurn.trans {a b c : List Int} (h : IsTurn a b) (k : IsTurn b c) : IsTurn a c := by
  obtain ⟨x, y, rfl, rfl⟩ := h
  obtain ⟨u, v, h1, rfl⟩ := k
  rcases List.append_eq_append_iff.1 h1 with ⟨p, rfl, rfl⟩ | ⟨p, rfl, rfl⟩
  · exact ⟨p, v ++ y, by simp, by simp⟩
  · exact ⟨x ++ u, p, by simp, by simp⟩
theorem IsTurn.rev {a b : List Int} (h : IsTurn a b) : IsTurn a.reverse b.reverse := by
  obtain ⟨x, y, rfl, rfl⟩ := h
  exact ⟨y.reverse, x.reverse, by simp, by simp⟩
theorem IsTurn.mem {a b : List Int} (h : IsTurn a b) (z : Int) : z ∈ a ↔ z ∈ b := by
  obtain ⟨x, y, rfl, rfl⟩ := h
  rw [List.mem_append, List.mem_append]
  exact Or.comm
theorem IsTurn.nodup {a b : List Int} (h : IsTurn a b) (hn : a.Nodup) : b.Nodup := by
  obtain ⟨x, y, rfl, rfl⟩ := h
  exact List.perm_append_comm.nodup_iff.1 hn
theorem IsTurn.length {a b : List Int} (h : IsTurn a b) : a.length = b.length := by
  obtain ⟨x, y, rfl, rfl⟩ := h
  simp; omega
theorem isTurn_turnl (l : List Int) : IsTurn l (turnl l) := ⟨l.take (leastAt l), l.drop (leastAt l), (List.take_append_drop ..).symm, rfl⟩
theorem least_min (l : List Int) : ∀ x ∈ l, gi l (leastAt l) ≤ x := by
  have key : ∀ i, ∀ p, p < i → gi l (leastTo l i) ≤ gi l p := by
    intro i
    induction i with
    | zero => intro p hp; omega
    | succ i ih =>
      intro p hp
      unfold leastTo
      by_cases c : gi l i < gi l (leastTo l i)
      · rw [if_pos c]
        rcases Nat.lt_succ_iff_lt_or_eq.1 hp with q | rfl
        · have := ih p q; omega
        · omega
      · rw [if_neg c]
        rcases Nat.lt_succ_iff_lt_or_eq.1 hp with q | rfl
        · exact ih p q
        · omega
  intro x hx
  obtain ⟨p, hp, e⟩ := List.getElem_of_mem hx
  have := key l.length p hp
  rw [gi_get hp, e] at this
  exact this
theorem turnl_head {l : List Int} (h : l ≠ []) : ∃ t, turnl l = gi l (leastAt l) :: t := by
  have hp : 0 < l.length := List.length_pos_iff.2 h
  have hlt : leastAt l < l.length := leastTo_lt l hp
  refine ⟨l.drop (leastAt l + 1) ++ l.take (leastAt l), ?_⟩
  unfold turnl
  rw [drop_int hlt]
  rfl
theorem turn_unique {m : Int} {s t : List Int} (h : IsTurn (m :: s) (m :: t)) (hn : (m :: s).Nodup) : m :: s = m :: t := by
  obtain ⟨x, y, h1, h2⟩ := h
  cases x with
  | nil => rw [h1, h2]; simp
  | cons p x =>
    cases y with
    | nil => rw [h1, h2]; simp
    | cons q y =>
      injection h1 with e1 e2
      injection h2 with e3 e4
      rw [List.nodup_cons] at hn
      exact absurd (by rw [e2, ← e3]; simp) hn.1
theorem turnl_eq {a b : List Int} (h : IsTurn a b) (hn : a.Nodup) : turnl a = turnl b := by
  by_cases ha : a = []
  · subst ha
    have : b = [] := List.length_eq_zero_iff.1 (by rw [← h.length]; rfl)
    rw [this]
  · have hb : b ≠ [] := by
      intro e
      subst e
      exact ha (List.length_eq_zero_iff.1 (by rw [h.length]; rfl))
    obtain ⟨s, hs⟩ := turnl_head ha
    obtain ⟨t, ht⟩ := turnl_head hb
    have hT : IsTurn (turnl a) (turnl b) := ((isTurn_turnl a).symm.trans h).trans (isTurn_turnl b)
    have hN := (isTurn_turnl a).nodup hn
    have ma : gi a (leastAt a) ∈ a := by
      have := ((isTurn_turnl a).mem (gi a (leastAt a))).2 (by rw [hs]; simp)
      exact this
    have mb : gi b (leastAt b) ∈ b := by
      have := ((isTurn_turnl b).mem (gi b (leastAt b))).2 (by rw [ht]; simp)
      exact this
    have e : gi a (leastAt a) = gi b (leastAt b) := by
      have h1 := least_min a _ ((h.mem _).2 mb)
      have h2 := least_min b _ ((h.mem _).1 ma)
      omega
    rw [hs, ht, ← e] at hT
    rw [hs] at hN
    rw [hs, ht, ← e]
    exact turn_unique hT hN
theorem turnOf_iff {a b : List Int} : turnOf a b = true ↔ IsTurn a b := by
  constructor
  · intro h
    unfold turnOf at h
    rw [Bool.and_eq_true, decide_eq_true_eq, Bool.or_eq_true, decide_eq_true_eq, List.any_eq_true] at h
    obtain ⟨hl, ⟨k, hk, ht⟩ | h0⟩ := h
    · rw [List.mem_range] at hk
      rw [turnTest_iff hl (by omega), decide_eq_true_eq] at ht
      exact ⟨a.take k, a.drop k, (List.take_append_drop ..).symm, ht.symm⟩
    · have e1 : a = [] := List.length_eq_zero_iff.1 h0
      have e2 : b = [] := List.length_eq_zero_iff.1 (by omega)
      rw [e1, e2]
      exact IsTurn.refl _
  · intro h
    have hl := h.length
    obtain ⟨x, y, ha, hb⟩ := h
    rcases Nat.eq_zero_or_pos a.length with h0 | h0
    · unfold turnOf; simp [h0, ← hl]
    · by_cases hy : y = []
      · subst hy
        refine turnOf_yes hl h0 (by rw [turnTest_iff hl (by omega)]; simp [ha, hb])
      · have := List.length_pos_iff.2 hy
        have hal : a.length = x.length + y.length := by rw [ha]; simp
        refine turnOf_yes hl (k := x.length) (by omega) (by rw [turnTest_iff hl (by omega)]; rw [ha, hb]; simp)
section
variable {fr : List Int} {n : Nat} {r s : List (List Int)}
theorem gl_map (f : List Int → List Int) {v : Nat} (h : v < r.length) : gl (r.map f) v = f (gl r v) := by
  rw [gl_get (by simpa using h), List.getElem_map, gl_get h]
theorem gl_ext {x y : List (List Int)} (hl : x.length = y.length) (h : ∀ v, v < x.length → gl x v = gl y v) : x = y := by
  refine List.ext_getElem hl fun p h1 h2 => ?_
  rw [← gl_get h1, ← gl_get h2]
  exact h p h1
theorem isRot_map (h : IsRot fr n r) {f : List Int → List Int} (hf : ∀ l : List Int, l.Nodup → (f l).Nodup ∧ ∀ x, x ∈ f l ↔ x ∈ l) : IsRot fr n (r.map f) := by
  have hl := h.len
  refine ⟨by rw [List.length_map]; exact hl, fun v hv => ?_, fun v hv x => ?_⟩
  · rw [gl_map f (by omega)]
    exact (hf _ (h.nodup v hv)).1
  · rw [gl_map f (by omega), (hf _ (h.nodup v hv)).2]
    exact h.mem v hv x
theorem IsRot.canon (h : IsRot fr n r) : IsRot fr n (r.map turnl) := isRot_map h fun l hl => ⟨(isTurn_turnl l).nodup hl, fun x => ((isTurn_turnl l).mem x).symm⟩
theorem IsRot.reverse (h : IsRot fr n r) : IsRot fr n (r.map List.reverse) := isRot_map h fun l hl => ⟨(List.reverse_perm l).nodup_iff.2 hl, fun x => List.mem_reverse⟩
theorem canon_same (h : IsRot fr n r) : sameOf (r.map turnl) r = true := by
  refine sameOf_yes (by simp) fun j hj => ?_
  rw [List.length_map] at hj
  rw [gl_map turnl hj, turnOf_iff]
  exact (isTurn_turnl _).symm
theorem canon_canon (h : IsRot fr n r) : (r.map turnl).map turnl = r.map turnl := by
  have hl := h.len
  refine gl_ext (by simp) fun v hv => ?_
  simp only [List.length_map] at hv
  rw [gl_map turnl (by simpa using hv), gl_map turnl hv]
  exact (turnl_eq (isTurn_turnl _) (h.nodup v (by omega))).symm
theorem same_canon (h : IsRot fr n r) (k : IsRot fr n s) : sameOf r s = decide (r.map turnl = s.map turnl) := by
  have hl := h.len
  have kl := k.len
  by_cases c : ∀ v, v < r.length → IsTurn (gl r v) (gl s v)
  · rw [sameOf_yes (by omega) (fun v hv => turnOf_iff.2 (c v hv)), eq_comm, decide_eq_true_eq]
    refine gl_ext (by simp; omega) fun v hv => ?_
    rw [List.length_map] at hv
    rw [gl_map turnl hv, gl_map turnl (by omega)]
    exact turnl_eq (c v hv) (h.nodup v (by omega))
  · obtain ⟨v, hv⟩ := Classical.not_forall.1 c
    obtain ⟨hv, hc⟩ := Classical.not_imp.1 hv
    rw [sameOf_no hv (by
      cases e : turnOf (gl r v) (gl s v) with
      | false => rfl
      | true => exact absurd (turnOf_iff.1 e) hc), eq_comm, decide_eq_false_iff_not]
    intro e
    apply hc
    have e2 : gl (r.map turnl) v = gl (s.map turnl) v := by rw [e]
    rw [gl_map turnl hv, gl_map turnl (by omega)] at e2
    exact (isTurn_turnl _).trans (by rw [e2]; exact (isTurn_turnl _).symm)
theorem mirror_mirror (h : IsRot fr n r) : ((((r.map List.reverse).map turnl).map List.reverse).map turnl) = r.map turnl := by
  have hl := h.len
  refine gl_ext (by simp) fun v hv => ?_
  simp only [List.length_map] at hv
  rw [gl_map turnl (by simpa using hv), gl_map List.reverse (by simpa using hv), gl_map turnl (by simpa using hv), gl_map List.reverse hv, gl_map turnl hv]
  refine (turnl_eq ?_ (h.nodup v (by omega))).symm
  have := (isTurn_turnl (gl r v).reverse).rev
  rw [List.reverse_reverse] at this
  exact this
end
theorem turn_gi {x y : List Int} {i : Nat} (hi : i < (x ++ y).length) : gi (y ++ x) i = gi (x ++ y) ((x.length + i) % (x ++ y).length) := by
  have hl : (x ++ y).length = x.length + y.length := List.length_append
  have hm := Nat.mod_lt (x.length + i) (show 0 < (x ++ y).length by omega)
  rw [gi_get (by rw [List.length_append]; omega), gi_get hm, List.getElem_append, List.getElem_append]
  rcases Nat.lt_or_ge (x.length + i) (x ++ y).length with h | h
  · have e : (x.length + i) % (x ++ y).length = x.length + i := Nat.mod_eq_of_lt h
    rw [dif_pos (by omega), dif_neg (by omega)]
    congr 1
    omega
  · have e : (x.length + i) % (x ++ y).length = x.length + i - (x ++ y).length := by rw [Nat.mod_eq_sub_mod h, Nat.mod_eq_of_lt (by omega)]
    rw [dif_neg (by omega), dif_pos (by omega)]
    congr 1
    omega
/-- round a mirrored list it goes the other way -/
theorem back_at {l T : List Int} (h : IsTurn l.reverse T) (hn : l.Nodup) {j : Nat} (hj : j < l.length) : ∃ i, i < T.length ∧ gi T i = gi l ((j + 1) % l.length) ∧ gi T ((i + 1) % T.length) = gi l j := by
  have hlen := h.length
  rw [List.length_reverse] at hlen
  have hm := Nat.mod_lt (j + 1) (show 0 < l.length by omega)
  obtain ⟨i, hi, e⟩ := List.getElem_of_mem ((h.mem (gi l ((j + 1) % l.length))).1 (List.mem_reverse.2 (by rw [gi_get hm]; exact List.getElem_mem hm)))
  refine ⟨i, hi, by rw [gi_get hi]; exact e, ?_⟩
  rw [← gi_get hi] at e
  obtain ⟨x, y, hx, rfl⟩ := h
  have hxl : (x ++ y).length = l.length := by rw [← hx, List.length_reverse]
  rw [turn_gi (by omega), hxl, ← hx] at e
  have hm2 := Nat.mod_lt (i + 1) (show 0 < (y ++ x).length by omega)
  rw [turn_gi (by omega), hxl, ← hx, ← hlen]
  have q1 := Nat.mod_lt (x.length + i) (show 0 < l.length by omega)
  have q2 := Nat.mod_lt (x.length + (i + 1) % l.length) (show 0 < l.length by omega)
  rw [gi_reverse q1] at e
  rw [gi_reverse q2]
  have e2 : l.length - 1 - (x.length + i) % l.length = (j + 1) % l.length := by
    rw [gi_get (by omega), gi_get hm] at e
    have hinj : ∀ p q (hp : p < l.length) (hq : q < l.length), l[p] = l[q] → p = q := by
      intro p q hp hq ee
      rcases Nat.lt_trichotomy p q with g | g | g
      · exact absurd ee (List.pairwise_iff_getElem.1 hn p q hp hq g)
      · exact g
      · exact absurd ee.symm (List.pairwise_iff_getElem.1 hn q p hq hp g)
    exact hinj _ _ _ _ e
  have e3 : (x.length + (i + 1) % l.length) % l.length = ((x.length + i) % l.length + 1) % l.length := by
    rw [Nat.add_mod_mod, Nat.mod_add_mod]; rfl
  rw [e3]
  congr 1
  obtain ⟨q, hq⟩ : ∃ q, q = (x.length + i) % l.length := ⟨_, rfl⟩
  rw [← hq] at e2 q1 ⊢
  rcases Nat.lt_or_ge (j + 1) l.length with g | g
  · rw [Nat.mod_eq_of_lt g] at e2
    rw [Nat.mod_eq_of_lt (by omega)]; omega
  · have : j + 1 = l.length := by omega
    rw [this, Nat.mod_self] at e2
    rw [show q + 1 = l.length by omega, Nat.mod_self]; omega
end Go.Proofs.Ytkkhhbegeboonaa.Rot
-- Written by a program of this session (wip/tools/printx.py) over the kit's printer and texts of its own; it is no print of print.sh.

namespace Go.Proofs.Ytkkhhbegeboonaa.GAll
open Go.RowKit Go.Proofs.YtkkhhbegeboonaaW.PrintWords Go.Proofs.YtkkhhbegeboonaaW.PrintLast Go.Proofs.YtkkhhbegeboonaaW.PrintMore
attribute [local go_sem] max2_int min2_int max_two min_two max_three min_three max_four min_four   -- for this text's walks alone
set_option linter.unusedVariables false
set_option linter.unusedSimpArgs false

/-! ### simple_compare: function 56 -/
def simple_compare.f (a0_0 : Int) (a0_1 : Int) (a1_0 : Int) (a1_1 : Int) : Option (Int) := if a0_0 = a1_0 then (some (wrap64 (a0_1 - a1_1))) else (some (wrap64 (a0_0 - a1_0)))
set_option maxHeartbeats 8000000 in
set_option maxRecDepth 100000 in
theorem simple_compare.calls (a0_0 : Int) (a0_1 : Int) (a1_0 : Int) (a1_1 : Int) (r : Int) (w : World) (h : simple_compare.f a0_0 a0_1 a1_0 a1_1 = some r) :
    Calls Try.prog 56 #[.agg #[.int .i64 a0_0, .int .i64 a0_1], .agg #[.int .i64 a1_0, .int .i64 a1_1]] w fun e w' => e = .returned (.int .i64 r) ∧ Below w.heap.size w w' := by
  have hu59 := Try.underlying59
  have HB := Aside0.mk (Below.refl w.heap.size w)
  have H : (if a0_0 = a1_0 then (some (wrap64 (a0_1 - a1_1))) else (some (wrap64 (a0_0 - a1_0)))) = some r := h
  clear h
  by_cases c3 : a0_0 = a1_0
  · rw [if_pos c3] at H
    have c3b0 : (a0_0 == a1_0) = true := beq_iff_eq.mpr c3
    have c3b1 : (a0_0 != a1_0) = false := bne_eq_false_iff_eq.mpr c3
    clear c3
    obtain rfl := Option.some.inj H
    go_enter Try.func56, Try.ntmps56
    go_wp2_with (first | ((with_reducible refine gate_dst (N := 2) rfl ?_); refine box_event ?hg (N := 2) ?hd (cs := #[.int .i64 a0_0, .int .i64 a0_1]) (t := 59) ?hr ?_; (case hd => rfl); (case hg => rfl); (case hr => first | (go_simp; done) | (go_simp; rfl)); intro gb101 hg w4 hbox hb; have n0_ := Aside0.mk (below_step (by repeat (first | (with_reducible first | exact HB.out | apply below_alloc | apply pw_below_drewN | apply below_drew1) | exact HB.out)) hb); have n1_ := Aside0.mk (hbox); have n2_ := Aside0.mk ((by rw [hg]; exact (below_size (by repeat (first | (with_reducible first | exact HB.out | apply below_alloc | apply pw_below_drewN | apply below_drew1) | exact HB.out))) : w.heap.size ≤ gb101)); have n3_ := Aside0.mk ((by rw [hg]; exact (below_size (by repeat (first | (with_reducible first | exact HB.out | apply below_alloc | apply pw_below_drewN | apply below_drew1) | exact HB.out))) : w.heap.size ≤ gb101)); clear HB; have HB := n0_; have BK101 := n1_; have GW101 := n2_; have GE101 := n3_; clear n0_ n1_ n2_ n3_; clear hb hbox hg) | ((with_reducible refine gate_dst (N := 3) rfl ?_); refine box_event ?hg (N := 3) ?hd (cs := #[.int .i64 a1_0, .int .i64 a1_1]) (t := 59) ?hr ?_; (case hd => rfl); (case hg => rfl); (case hr => first | (go_simp; done) | (go_simp; rfl)); intro gb102 hg w5 hbox hb; have n0_ := Aside0.mk (blk_below (g := gb101) (o := .cells #[.int .i64 a0_0, .int .i64 a0_1] 59 (0, 0)) (by (with_reducible repeat (first | refine blk_drewN ?_ _ | refine blk_drew ?_ | refine blk_alloc ?_ _)); exact BK101.out) hb); have n1_ := Aside0.mk (below_step (by repeat (first | (with_reducible first | exact HB.out | apply below_alloc | apply pw_below_drewN | apply below_drew1 | refine below_set ?_ GE101.out) | exact HB.out)) hb); have n2_ := Aside0.mk (hbox); have n3_ := Aside0.mk ((by rw [hg]; exact (below_size (by repeat (first | (with_reducible first | exact HB.out | apply below_alloc | apply pw_below_drewN | apply below_drew1 | refine below_set ?_ GE101.out) | exact HB.out))) : w.heap.size ≤ gb102)); have n4_ := Aside0.mk ((by rw [hg]; exact (below_size (by repeat (first | (with_reducible first | exact HB.out | apply below_alloc | apply pw_below_drewN | apply below_drew1 | refine below_set ?_ GE101.out) | exact HB.out))) : w.heap.size ≤ gb102)); have n5_ := Aside0.mk ((by rw [hg]; exact Nat.ne_of_lt (blk_lt (g := gb101) (o := .cells #[.int .i64 a0_0, .int .i64 a0_1] 59 (0, 0)) (by (with_reducible repeat (first | refine blk_drewN ?_ _ | refine blk_drew ?_ | refine blk_alloc ?_ _)); exact BK101.out)) : gb101 ≠ gb102)); have n6_ := Aside0.mk ((by rw [hg]; exact Nat.ne_of_gt (blk_lt (g := gb101) (o := .cells #[.int .i64 a0_0, .int .i64 a0_1] 59 (0, 0)) (by (with_reducible repeat (first | refine blk_drewN ?_ _ | refine blk_drew ?_ | refine blk_alloc ?_ _)); exact BK101.out)) : gb102 ≠ gb101)); clear BK101; clear HB; have BK101 := n0_; have HB := n1_; have BK102 := n2_; have GW102 := n3_; have GE102 := n4_; have NB101_102 := n5_; have NB102_101 := n6_; clear n0_ n1_ n2_ n3_ n4_ n5_ n6_; clear hb hbox hg; have hnb6 := NB101_102.out; have hnc6 := NB102_101.out; have hcz7_0 : w5.cell? ⟨gb101, 0, none⟩ = some (.int .i64 a0_0) := (blk_cell BK101.out 0).trans rfl; have hcz7_1 : w5.cell? ⟨gb101, 1, none⟩ = some (.int .i64 a0_1) := (blk_cell BK101.out 1).trans rfl; have hfz7_0 := blk_frozen BK101.out 0; have hfz7_1 := blk_frozen BK101.out 1; have hcz8_0 : w5.cell? ⟨gb102, 0, none⟩ = some (.int .i64 a1_0) := (blk_cell BK102.out 0).trans rfl; have hcz8_1 : w5.cell? ⟨gb102, 1, none⟩ = some (.int .i64 a1_1) := (blk_cell BK102.out 1).trans rfl; have hfz8_0 := blk_frozen BK102.out 0; have hfz8_1 := blk_frozen BK102.out 1))
    go_ret
    exact ⟨by first | rfl | (simp [errW_none, errW_some] <;> rfl) | (simp [*, errW_none, errW_some] <;> rfl), by repeat (first | (with_reducible first | exact HB.out | apply below_alloc | apply pw_below_drewN | apply below_drew1 | refine below_set ?_ GE101.out | refine below_set ?_ GE102.out) | exact HB.out)⟩
  · rw [if_neg c3] at H
    have c3b0 : (a0_0 == a1_0) = false := beq_eq_false_iff_ne.mpr c3
    have c3b1 : (a0_0 != a1_0) = true := bne_iff_ne.mpr c3
    obtain rfl := Option.some.inj H
    go_enter Try.func56, Try.ntmps56
    go_wp2_with (first | ((with_reducible refine gate_dst (N := 2) rfl ?_); refine box_event ?hg (N := 2) ?hd (cs := #[.int .i64 a0_0, .int .i64 a0_1]) (t := 59) ?hr ?_; (case hd => rfl); (case hg => rfl); (case hr => first | (go_simp; done) | (go_simp; rfl)); intro gb101 hg w9 hbox hb; have n0_ := Aside0.mk (below_step (by repeat (first | (with_reducible first | exact HB.out | apply below_alloc | apply pw_below_drewN | apply below_drew1) | exact HB.out)) hb); have n1_ := Aside0.mk (hbox); have n2_ := Aside0.mk ((by rw [hg]; exact (below_size (by repeat (first | (with_reducible first | exact HB.out | apply below_alloc | apply pw_below_drewN | apply below_drew1) | exact HB.out))) : w.heap.size ≤ gb101)); have n3_ := Aside0.mk ((by rw [hg]; exact (below_size (by repeat (first | (with_reducible first | exact HB.out | apply below_alloc | apply pw_below_drewN | apply below_drew1) | exact HB.out))) : w.heap.size ≤ gb101)); clear HB; have HB := n0_; have BK101 := n1_; have GW101 := n2_; have GE101 := n3_; clear n0_ n1_ n2_ n3_; clear hb hbox hg) | ((with_reducible refine gate_dst (N := 3) rfl ?_); refine box_event ?hg (N := 3) ?hd (cs := #[.int .i64 a1_0, .int .i64 a1_1]) (t := 59) ?hr ?_; (case hd => rfl); (case hg => rfl); (case hr => first | (go_simp; done) | (go_simp; rfl)); intro gb102 hg w10 hbox hb; have n0_ := Aside0.mk (blk_below (g := gb101) (o := .cells #[.int .i64 a0_0, .int .i64 a0_1] 59 (0, 0)) (by (with_reducible repeat (first | refine blk_drewN ?_ _ | refine blk_drew ?_ | refine blk_alloc ?_ _)); exact BK101.out) hb); have n1_ := Aside0.mk (below_step (by repeat (first | (with_reducible first | exact HB.out | apply below_alloc | apply pw_below_drewN | apply below_drew1 | refine below_set ?_ GE101.out) | exact HB.out)) hb); have n2_ := Aside0.mk (hbox); have n3_ := Aside0.mk ((by rw [hg]; exact (below_size (by repeat (first | (with_reducible first | exact HB.out | apply below_alloc | apply pw_below_drewN | apply below_drew1 | refine below_set ?_ GE101.out) | exact HB.out))) : w.heap.size ≤ gb102)); have n4_ := Aside0.mk ((by rw [hg]; exact (below_size (by repeat (first | (with_reducible first | exact HB.out | apply below_alloc | apply pw_below_drewN | apply below_drew1 | refine below_set ?_ GE101.out) | exact HB.out))) : w.heap.size ≤ gb102)); have n5_ := Aside0.mk ((by rw [hg]; exact Nat.ne_of_lt (blk_lt (g := gb101) (o := .cells #[.int .i64 a0_0, .int .i64 a0_1] 59 (0, 0)) (by (with_reducible repeat (first | refine blk_drewN ?_ _ | refine blk_drew ?_ | refine blk_alloc ?_ _)); exact BK101.out)) : gb101 ≠ gb102)); have n6_ := Aside0.mk ((by rw [hg]; exact Nat.ne_of_gt (blk_lt (g := gb101) (o := .cells #[.int .i64 a0_0, .int .i64 a0_1] 59 (0, 0)) (by (with_reducible repeat (first | refine blk_drewN ?_ _ | refine blk_drew ?_ | refine blk_alloc ?_ _)); exact BK101.out)) : gb102 ≠ gb101)); clear BK101; clear HB; have BK101 := n0_; have HB := n1_; have BK102 := n2_; have GW102 := n3_; have GE102 := n4_; have NB101_102 := n5_; have NB102_101 := n6_; clear n0_ n1_ n2_ n3_ n4_ n5_ n6_; clear hb hbox hg; have hnb11 := NB101_102.out; have hnc11 := NB102_101.out; have hcz12_0 : w10.cell? ⟨gb101, 0, none⟩ = some (.int .i64 a0_0) := (blk_cell BK101.out 0).trans rfl; have hcz12_1 : w10.cell? ⟨gb101, 1, none⟩ = some (.int .i64 a0_1) := (blk_cell BK101.out 1).trans rfl; have hfz12_0 := blk_frozen BK101.out 0; have hfz12_1 := blk_frozen BK101.out 1; have hcz13_0 : w10.cell? ⟨gb102, 0, none⟩ = some (.int .i64 a1_0) := (blk_cell BK102.out 0).trans rfl; have hcz13_1 : w10.cell? ⟨gb102, 1, none⟩ = some (.int .i64 a1_1) := (blk_cell BK102.out 1).trans rfl; have hfz13_0 := blk_frozen BK102.out 0; have hfz13_1 := blk_frozen BK102.out 1))
    go_ret
    exact ⟨by first | rfl | (simp [errW_none, errW_some] <;> rfl) | (simp [*, errW_none, errW_some] <;> rfl), by repeat (first | (with_reducible first | exact HB.out | apply below_alloc | apply pw_below_drewN | apply below_drew1 | refine below_set ?_ GE101.out | refine below_set ?_ GE102.out) | exact HB.out)⟩

end Go.Proofs.Ytkkhhbegeboonaa.GAll
