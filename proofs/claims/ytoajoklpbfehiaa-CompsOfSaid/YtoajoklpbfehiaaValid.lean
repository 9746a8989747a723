/- DERIVED. What the printed forms of simple.Valid, tangramref03.Valid answer: one and the same, and when true. Degrees and both Isolated. -/
import Derived.Test.YtoajoklpbfehiaaGAllx
namespace Go.Proofs.Ytoajoklpbfehiaa.PureV
open Go.RowKit Go.Proofs.YtoajoklpbfehiaaW.PrintWords Go.Proofs.YtoajoklpbfehiaaW.PrintLast Go.Proofs.YtoajoklpbfehiaaW.PrintMore Go.Proofs.Ytoajoklpbfehiaa.GAll
set_option linter.unusedVariables false
set_option linter.unusedSimpArgs false
abbrev E := S33
abbrev rdE := rd_T33
/-- an edge's numbers are right -/
def okE (n : Int) (x : E) : Prop := 0 ≤ x.f0 ∧ x.f0 < x.f1 ∧ x.f1 < n
def lt (x y : E) : Prop := x.f0 < y.f0 ∨ (x.f0 = y.f0 ∧ x.f1 < y.f1)
def Ok (n : Int) (l : List E) (i : Nat) : Prop := okE n (rdE l (i : Nat)) ∧ (0 < i → lt (rdE l ((i - 1 : Nat) : Int)) (rdE l (i : Nat)))
def Good (n : Int) (l : List E) : Prop := 0 ≤ n ∧ n ≤ 1048576 ∧ l.length ≤ 4194304 ∧ ∀ i, i < l.length → Ok n l i
instance (n x) : Decidable (okE n x) := by unfold okE; infer_instance
instance (x y) : Decidable (lt x y) := by unfold lt; infer_instance
instance (n l i) : Decidable (Ok n l i) := by unfold Ok; infer_instance
theorem wadd {i : Nat} (h : i ≤ 9000000) : wrap64 ((i : Int) + 1) = ((i + 1 : Nat) : Int) := by rw [IntWalk.wrap64_in _ (by omega)]; omega
theorem wsub {i : Nat} (h : i ≤ 9000000) (h0 : 0 < i) : wrap64 ((i : Int) - 1) = ((i - 1 : Nat) : Int) := by rw [IntWalk.wrap64_in _ (by omega)]; omega
theorem s_step {n : Int} {l : List E} {i : Nat} (hn : 0 ≤ n ∧ n ≤ 1048576) (hl : l.length ≤ 4194304) (hi : i < l.length) (hp : ∀ j, j < i → Ok n l j) (k : Nat) :
    simple_Valid.l0 (k + 1) l (l.length : Int) (i : Int) n l = if Ok n l i then simple_Valid.l0 k l (l.length : Int) ((i + 1 : Nat) : Int) n l else some false := by
  simp only [simple_Valid.l0]
  rw [if_pos (show (i : Int) < (l.length : Int) by omega), if_pos (show (0 : Int) ≤ (i : Int) by omega), if_pos (show (i : Int) < (l.length : Int) by omega), wadd (by omega)]
  change (if (rdE l (i : Nat)).f0 < 0 then _ else _) = _
  by_cases c1 : (rdE l (i : Nat)).f0 < 0
  · rw [if_pos c1, if_neg (fun h => by have := h.1.1; omega)]
  rw [if_neg c1]
  by_cases c2 : (rdE l (i : Nat)).f0 ≥ (rdE l (i : Nat)).f1
  · rw [if_pos c2, if_neg (fun h => by have := h.1.2.1; omega)]
  rw [if_neg c2]
  by_cases c3 : (rdE l (i : Nat)).f1 ≥ n
  · rw [if_pos c3, if_neg (fun h => by have := h.1.2.2; omega)]
  rw [if_neg c3]
  by_cases c4 : 0 < i
  · rw [if_pos (show (i : Int) > 0 by omega), wsub (by omega) c4, if_pos (by omega), if_pos (by omega)]
    have hq := (hp (i - 1) (by omega)).1
    unfold okE at hq
    change (simple_compare.f (rdE l ((i - 1 : Nat) : Int)).f0 (rdE l ((i - 1 : Nat) : Int)).f1 (rdE l (i : Nat)).f0 (rdE l (i : Nat)).f1).bind _ = _
    have hOk : Ok n l i ↔ lt (rdE l ((i - 1 : Nat) : Int)) (rdE l (i : Nat)) := ⟨fun h => h.2 c4, fun h => ⟨⟨by omega, by omega, by omega⟩, fun _ => h⟩⟩
    unfold simple_compare.f
    by_cases c5 : (rdE l ((i - 1 : Nat) : Int)).f0 = (rdE l (i : Nat)).f0
    · rw [if_pos c5, Option.bind_some, IntWalk.wrap64_in _ (by omega)]
      by_cases c6 : lt (rdE l ((i - 1 : Nat) : Int)) (rdE l (i : Nat))
      · rw [if_pos (hOk.2 c6), if_neg (by unfold lt at c6; omega)]
      · rw [if_neg (fun h => c6 (hOk.1 h)), if_pos (by unfold lt at c6; omega)]
    · rw [if_neg c5, Option.bind_some, IntWalk.wrap64_in _ (by omega)]
      by_cases c6 : lt (rdE l ((i - 1 : Nat) : Int)) (rdE l (i : Nat))
      · rw [if_pos (hOk.2 c6), if_neg (by unfold lt at c6; omega)]
      · rw [if_neg (fun h => c6 (hOk.1 h)), if_pos (by unfold lt at c6; omega)]
  · rw [if_neg (by omega), if_pos (show Ok n l i from ⟨⟨by omega, by omega, by omega⟩, fun h => absurd h c4⟩)]
theorem r_step {n : Int} {l : List E} {i : Nat} (hn : 0 ≤ n ∧ n ≤ 1048576) (hl : l.length ≤ 4194304) (hi : i < l.length) (hp : ∀ j, j < i → Ok n l j) (k : Nat) :
    tangramref03_Valid.l0 (k + 2) (i : Int) n l = if Ok n l i then tangramref03_Valid.l0 k ((i + 1 : Nat) : Int) n l else some false := by
  simp only [tangramref03_Valid.l0, tangramref03_Valid.j2]
  rw [if_pos (show (i : Int) < (l.length : Int) by omega), if_pos (show (0 : Int) ≤ (i : Int) by omega), wadd (by omega)]
  change (if (rdE l (i : Nat)).f0 < 0 then _ else _) = _
  by_cases c1 : (rdE l (i : Nat)).f0 < 0
  · rw [if_pos c1, if_pos trivial, if_neg (fun h => by have := h.1.1; omega)]
  rw [if_neg c1]
  by_cases c2 : (rdE l (i : Nat)).f0 ≥ (rdE l (i : Nat)).f1
  · rw [if_pos c2, if_pos trivial, if_neg (fun h => by have := h.1.2.1; omega)]
  rw [if_neg c2]
  by_cases c3 : (rdE l (i : Nat)).f1 ≥ n
  · rw [if_pos (decide_eq_true c3), if_neg (fun h => by have := h.1.2.2; omega)]
  rw [if_neg (by simpa using c3)]
  by_cases c4 : 0 < i
  · rw [if_pos (show (i : Int) > 0 by omega), wsub (by omega) c4, if_pos (by omega), if_pos (by omega)]
    change (tangramref03_Less.f (rdE l ((i - 1 : Nat) : Int)).f0 (rdE l ((i - 1 : Nat) : Int)).f1 (rdE l (i : Nat)).f0 (rdE l (i : Nat)).f1).bind _ = _
    have hOk : Ok n l i ↔ lt (rdE l ((i - 1 : Nat) : Int)) (rdE l (i : Nat)) := ⟨fun h => h.2 c4, fun h => ⟨⟨by omega, by omega, by omega⟩, fun _ => h⟩⟩
    have hL : tangramref03_Less.f (rdE l ((i - 1 : Nat) : Int)).f0 (rdE l ((i - 1 : Nat) : Int)).f1 (rdE l (i : Nat)).f0 (rdE l (i : Nat)).f1 = some (decide (Ok n l i)) := by
      unfold tangramref03_Less.f
      by_cases c5 : (rdE l ((i - 1 : Nat) : Int)).f0 < (rdE l (i : Nat)).f0
      · rw [if_pos c5, decide_eq_true (hOk.2 (Or.inl c5))]
      rw [if_neg c5]
      by_cases c6 : (rdE l ((i - 1 : Nat) : Int)).f0 = (rdE l (i : Nat)).f0
      · rw [if_pos c6]
        congr 1
        rw [decide_eq_decide, hOk]
        unfold lt
        omega
      · rw [if_neg c6, decide_eq_false (fun h => by have := hOk.1 h; unfold lt at this; omega)]
    rw [hL, Option.bind_some]
    by_cases c : Ok n l i
    · rw [if_pos c, if_pos (decide_eq_true c)]
    · rw [if_neg c, if_neg (by simpa using c)]
  · rw [if_neg (by omega), if_pos (show Ok n l i from ⟨⟨by omega, by omega, by omega⟩, fun h => absurd h c4⟩)]
theorem loops {n : Int} {l : List E} (hn : 0 ≤ n ∧ n ≤ 1048576) (hl : l.length ≤ 4194304) (d : Nat) : ∀ i : Nat, i + d = l.length → (∀ j, j < i → Ok n l j) →
    ∃ b : Bool, Ev (fun k => simple_Valid.l0 k l (l.length : Int) (i : Int) n l) b ∧ Ev (fun k => tangramref03_Valid.l0 k (i : Int) n l) b ∧ (b = true ↔ ∀ j, j < l.length → Ok n l j) := by
  induction d with
  | zero =>
    intro i hi hp
    refine ⟨true, Ev.step (f := fun _ => some true) (fun k => ?_) (Ev.now _), Ev.step (f := fun _ => some true) (fun k => ?_) (Ev.now _), fun _ j hj => hp j (by omega), fun _ => rfl⟩
    · simp only [simple_Valid.l0]
      rw [if_neg (by omega)]
    · simp only [tangramref03_Valid.l0]
      rw [if_neg (by omega)]
  | succ d ih =>
    intro i hi hp
    by_cases c : Ok n l i
    · obtain ⟨b, h1, h2, h3⟩ := ih (i + 1) (by omega) (fun j hj => by
        rcases Nat.lt_or_ge j i with h | h
        · exact hp j h
        · obtain rfl : j = i := by omega
          exact c)
      refine ⟨b, Ev.step (fun k => (s_step hn hl (by omega) hp k).trans (if_pos c)) h1, ?_, h3⟩
      obtain ⟨K, h2⟩ := h2
      refine ⟨K + 2, fun k hk => ?_⟩
      obtain ⟨m, rfl⟩ : ∃ m, k = m + 2 := ⟨k - 2, by omega⟩
      show tangramref03_Valid.l0 (m + 2) _ _ _ = _
      rw [r_step hn hl (by omega) hp m, if_pos c]
      exact h2 m (by omega)
    · refine ⟨false, Ev.step (f := fun _ => some false) (fun k => (s_step hn hl (by omega) hp k).trans (if_neg c)) (Ev.now _), ⟨2, fun k hk => ?_⟩, ⟨fun h => (by cases h), fun h => absurd (h i (by omega)) c⟩⟩
      obtain ⟨m, rfl⟩ : ∃ m, k = m + 2 := ⟨k - 2, by omega⟩
      show tangramref03_Valid.l0 (m + 2) _ _ _ = _
      rw [r_step hn hl (by omega) hp m, if_neg c]
/-- Both Valid answer the same, and true for the good alone. -/
theorem valid (n : Int) (l : List E) : ∃ b : Bool, Ev (fun k => simple_Valid.f k n l) b ∧ Ev (fun k => tangramref03_Valid.f k n l) b ∧ (b = true ↔ Good n l) := by
  by_cases c1 : n < 0
  · refine ⟨false, Ev.step (f := fun _ => some false) (fun k => ?_) (Ev.now _), Ev.step (f := fun _ => some false) (fun k => ?_) (Ev.now _), ⟨fun h => (by cases h), fun h => by have := h.1; omega⟩⟩
    · simp only [simple_Valid.f, if_pos c1, simple_Valid.j0]; rfl
    · simp only [tangramref03_Valid.f, if_pos c1, tangramref03_Valid.j0]; rfl
  by_cases c2 : n > 1048576
  · refine ⟨false, Ev.step (f := fun _ => some false) (fun k => ?_) (Ev.now _), Ev.step (f := fun _ => some false) (fun k => ?_) (Ev.now _), ⟨fun h => (by cases h), fun h => by have := h.2.1; omega⟩⟩
    · simp only [simple_Valid.f, if_neg c1, if_pos c2, simple_Valid.j0]; rfl
    · simp only [tangramref03_Valid.f, if_neg c1, if_pos c2, tangramref03_Valid.j0]; rfl
  by_cases c3 : (l.length : Int) > 4194304
  · refine ⟨false, Ev.step (f := fun _ => some false) (fun k => ?_) (Ev.now _), Ev.step (f := fun _ => some false) (fun k => ?_) (Ev.now _), ⟨fun h => (by cases h), fun h => by have := h.2.2.1; omega⟩⟩
    · simp only [simple_Valid.f, if_neg c1, if_neg c2, simple_Valid.j0, decide_eq_true c3]; rfl
    · simp only [tangramref03_Valid.f, if_neg c1, if_neg c2, tangramref03_Valid.j0, decide_eq_true c3]; rfl
  obtain ⟨b, h1, h2, h3⟩ := loops (n := n) (l := l) ⟨by omega, by omega⟩ (by omega) l.length 0 (by omega) (fun j hj => by omega)
  refine ⟨b, Ev.step (fun k => ?_) h1, Ev.step (fun k => ?_) h2, h3.trans ⟨fun h => ⟨by omega, by omega, by omega, h⟩, fun h => h.2.2.2⟩⟩
  · simp only [simple_Valid.f, if_neg c1, if_neg c2, simple_Valid.j0, decide_eq_false c3]; rfl
  · simp only [tangramref03_Valid.f, if_neg c1, if_neg c2, tangramref03_Valid.j0, decide_eq_false c3]; rfl
/-! ### Degrees, both Isolated -/
/-- the degrees and the marks say the same of every vertex -/
def Met (N i : Nat) (D : List Int) (M : List Bool) : Prop := D.length = N ∧ M.length = N ∧ ∀ v, v < N → (0 ≤ D.getD v 0 ∧ D.getD v 0 ≤ 2 * i) ∧ (D.getD v 0 = 0 ↔ M.getD v false = false)
theorem getD_set {α : Type} (l : List α) (i j : Nat) (x d : α) : (l.set i x).getD j d = if i = j ∧ j < l.length then x else l.getD j d := by
  simp only [List.getD_eq_getElem?_getD, List.getElem?_set]
  by_cases h : i = j
  · subst h
    by_cases h2 : i < l.length
    · simp [h2]
    · simp [h2]
  · simp [h]
theorem met_step {N i : Nat} {D : List Int} {M : List Bool} (h : Met N i D M) (hi : i ≤ 4194304) {u v : Nat} (hu : u < N) (hv : v < N) (huv : u ≠ v) :
    Met N (i + 1) ((D.set u (wrap64 (D.getD u 0 + 1))).set v (wrap64 ((D.set u (wrap64 (D.getD u 0 + 1))).getD v 0 + 1))) ((M.set u true).set v true) := by
  obtain ⟨h1, h2, h3⟩ := h
  refine ⟨by simp [h1], by simp [h2], fun x hx => ?_⟩
  have hx3 := h3 x hx
  have hu3 := h3 u hu
  have hv3 := h3 v hv
  rw [getD_set D, if_neg (by omega)]
  rw [IntWalk.wrap64_in (D.getD u 0 + 1) (by omega), IntWalk.wrap64_in (D.getD v 0 + 1) (by omega)]
  simp only [getD_set, List.length_set]
  by_cases c1 : v = x
  · rw [if_pos ⟨c1, by omega⟩, if_pos ⟨c1, by omega⟩]
    subst c1
    refine ⟨by omega, ⟨fun h => by omega, fun h => by cases h⟩⟩
  simp only [c1, false_and, if_false]
  by_cases c2 : u = x
  · rw [if_pos ⟨c2, by omega⟩, if_pos ⟨c2, by omega⟩]
    subst c2
    refine ⟨by omega, ⟨fun h => by omega, fun h => by cases h⟩⟩
  simp only [c2, false_and, if_false]
  exact ⟨by omega, hx3.2⟩
theorem deg_loop {N : Nat} {l : List E} (hg : Good (N : Int) l) (d : Nat) : ∀ (i : Nat) (D : List Int) (M : List Bool), i + d = l.length → Met N i D M →
    ∃ D' M', Met N l.length D' M' ∧ Ev (fun k => simple_Degrees.l0 k D l (l.length : Int) (i : Int)) (D', 0) ∧
      ∀ r, Ev (fun k => tangramref05_Isolated.l1 k M' 0 0 (N : Int) l) r → Ev (fun k => tangramref05_Isolated.l0 k M (i : Int) (N : Int) l) r := by
  have hN := hg.2.1
  have hl := hg.2.2.1
  induction d with
  | zero =>
    intro i D M hi hm
    obtain rfl : i = l.length := by omega
    refine ⟨D, M, hm, Ev.step (f := fun _ => some (D, 0)) (fun k => ?_) (Ev.now _), fun r h => Ev.step (fun k => ?_) h⟩
    · simp only [simple_Degrees.l0]
      rw [if_neg (by omega)]
    · simp only [tangramref05_Isolated.l0]
      rw [if_neg (by omega)]
  | succ d ih =>
    intro i D M hi hm
    have hil : i < l.length := by omega
    obtain ⟨⟨e1, e2, e3⟩, _⟩ := hg.2.2.2 i hil
    obtain ⟨u, hu⟩ : ∃ u : Nat, (rdE l (i : Nat)).f0 = (u : Int) := ⟨(rdE l (i : Nat)).f0.toNat, by omega⟩
    obtain ⟨v, hv⟩ : ∃ v : Nat, (rdE l (i : Nat)).f1 = (v : Int) := ⟨(rdE l (i : Nat)).f1.toNat, by omega⟩
    rw [hu] at e1 e2
    rw [hv] at e2 e3
    obtain ⟨D', M', h1, h2, h3⟩ := ih (i + 1) _ _ (by omega) (met_step hm (by omega) (u := u) (v := v) (by omega) (by omega) (by omega))
    refine ⟨D', M', h1, Ev.step (fun k => ?_) h2, fun r h => Ev.step (fun k => ?_) (h3 r h)⟩
    · simp only [simple_Degrees.l0]
      rw [if_pos (by omega), if_pos (by omega), if_pos (by omega)]
      change (if 0 ≤ (rdE l (i : Nat)).f0 then (if (rdE l (i : Nat)).f0 < (D.length : Int) then ((some (D.set (rdE l (i : Nat)).f0.toNat (wrap64 (rd D (rdE l (i : Nat)).f0 + 1)))).bind fun y201 => (if 0 ≤ (rdE l (i : Nat)).f1 then (if (rdE l (i : Nat)).f1 < (D.length : Int) then (simple_Degrees.l0 k (y201.set (rdE l (i : Nat)).f1.toNat (wrap64 (rd y201 (rdE l (i : Nat)).f1 + 1))) l (l.length : Int) (wrap64 ((i : Int) + 1))) else none) else none)) else none) else none) = _
      rw [hu, hv, if_pos (by omega), if_pos (by have := hm.1; omega), Option.bind_some]
      rw [if_pos (by omega), if_pos (by have := hm.1; omega), wadd (by omega)]
      rfl
    · simp only [tangramref05_Isolated.l0]
      rw [if_pos (by omega), if_pos (by omega)]
      change (if 0 ≤ (rdE l (i : Nat)).f0 then (if (rdE l (i : Nat)).f0 < (M.length : Int) then (if 0 ≤ (rdE l (i : Nat)).f1 then (if (rdE l (i : Nat)).f1 < (M.length : Int) then (tangramref05_Isolated.l0 k ((M.set (rdE l (i : Nat)).f0.toNat true).set (rdE l (i : Nat)).f1.toNat true) (wrap64 ((i : Int) + 1)) (N : Int) l) else none) else none) else none) else none) = _
      rw [hu, hv, if_pos (by omega), if_pos (by have := hm.2.1; omega), if_pos (by omega), if_pos (by have := hm.2.1; omega), wadd (by omega)]
      rfl
theorem cnt_loop {N m : Nat} (hN : N ≤ 1048576) {D : List Int} {M : List Bool} {l : List E} (hm : Met N m D M) (d : Nat) : ∀ (i c : Nat), i + d = N → c ≤ i →
    ∃ r : Int, Ev (fun k => comps_Isolated.l0 k 0 (c : Int) D (N : Int) (i : Int)) (r, 0) ∧ Ev (fun k => tangramref05_Isolated.l1 k M (c : Int) (i : Int) (N : Int) l) (r, 0) := by
  induction d with
  | zero =>
    intro i c hi hc
    obtain rfl : i = N := by omega
    refine ⟨c, Ev.step (f := fun _ => some ((c : Int), 0)) (fun k => ?_) (Ev.now _), Ev.step (f := fun _ => some ((c : Int), 0)) (fun k => ?_) (Ev.now _)⟩
    · simp only [comps_Isolated.l0]
      rw [if_neg (by omega)]
    · simp only [tangramref05_Isolated.l1]
      rw [if_neg (by omega)]
  | succ d ih =>
    intro i c hi hc
    have hs := (hm.2.2 i (by omega)).2
    have hl1 := hm.1
    have hl2 := hm.2.1
    by_cases c0 : D.getD i 0 = 0
    · obtain ⟨r, h1, h2⟩ := ih (i + 1) (c + 1) (by omega) (by omega)
      refine ⟨r, Ev.step (fun k => ?_) h1, Ev.step (fun k => ?_) h2⟩
      · simp only [comps_Isolated.l0]
        rw [if_pos (by omega), if_pos (by omega), if_pos (by omega)]
        change (if D.getD ((i : Int).toNat) 0 = 0 then _ else _) = _
        rw [Int.toNat_natCast, if_pos c0, wadd (by omega), wadd (by omega)]
      · simp only [tangramref05_Isolated.l1]
        rw [if_pos (by omega), if_pos (by omega), if_pos (by omega)]
        change (if M.getD ((i : Int).toNat) false = true then _ else _) = _
        rw [Int.toNat_natCast, if_neg (by rw [hs.1 c0]; simp), wadd (by omega), wadd (by omega)]
    · obtain ⟨r, h1, h2⟩ := ih (i + 1) c (by omega) (by omega)
      refine ⟨r, Ev.step (fun k => ?_) h1, Ev.step (fun k => ?_) h2⟩
      · simp only [comps_Isolated.l0]
        rw [if_pos (by omega), if_pos (by omega), if_pos (by omega)]
        change (if D.getD ((i : Int).toNat) 0 = 0 then _ else _) = _
        rw [Int.toNat_natCast, if_neg c0, wadd (by omega)]
      · simp only [tangramref05_Isolated.l1]
        rw [if_pos (by omega), if_pos (by omega), if_pos (by omega)]
        change (if M.getD ((i : Int).toNat) false = true then _ else _) = _
        rw [Int.toNat_natCast, if_pos (by cases hM : M.getD i false with | true => rfl | false => exact absurd (hs.2 hM) c0), wadd (by omega)]
theorem isolated (n : Int) (l : List E) : ∃ r : Int × Int, Ev (fun k => comps_Isolated.f k n l) r ∧ Ev (fun k => tangramref05_Isolated.f k n l) r := by
  obtain ⟨b, h1, h2, h3⟩ := valid n l
  cases b with
  | false =>
    refine ⟨(0, 1), Ev.bind (a := (([] : List Int), (1 : Int))) (Ev.bind h1 ?_) (Ev.step (f := fun _ => some ((0 : Int), (1 : Int))) (fun k => ?_) (Ev.now _)), Ev.bind h2 ?_⟩
    · simp only [Bool.false_eq_true, if_false]; exact Ev.now _
    · simp only [comps_Isolated.l0]; rfl
    · simp only [Bool.false_eq_true, if_false]; exact Ev.now _
  | true =>
    have hg := h3.1 rfl
    obtain ⟨N, rfl⟩ : ∃ N : Nat, n = N := ⟨n.toNat, by have := hg.1; omega⟩
    have hN := hg.2.1
    obtain ⟨D, M, m1, m2, m3⟩ := deg_loop hg l.length 0 (List.replicate N 0) (List.replicate N false) (by omega) ⟨by simp, by simp, fun v hv => by simp [List.getD_eq_getElem?_getD, List.getElem?_replicate, hv]⟩
    obtain ⟨r, c1, c2⟩ := cnt_loop (l := l) (by omega) m1 N 0 0 (by omega) (by omega)
    refine ⟨(r, 0), Ev.bind (a := (D, 0)) (Ev.bind h1 ?_) ?_, Ev.bind h2 ?_⟩
    · simp only [if_true, show (0 : Int) ≤ (N : Int) by omega, show (N : Int).toNat ≤ 35184372088832 by omega]
      exact m2
    · rw [← m1.1] at c1
      exact c1
    · simp only [if_true, show (0 : Int) ≤ (N : Int) by omega, show (N : Int).toNat ≤ 281474976710656 by omega]
      exact m3 _ c2
theorem ints_loop (xs : List Int) (hl : xs.length ≤ 9000000) (d : Nat) : ∀ i : Nat, i + d = xs.length → Ev (fun k => tangramref01_SameInts.l0 k xs xs (i : Int)) true := by
  induction d with
  | zero =>
    intro i hi
    refine Ev.step (f := fun _ => some true) (fun k => ?_) (Ev.now _)
    simp only [tangramref01_SameInts.l0]
    rw [if_neg (by omega)]
  | succ d ih =>
    intro i hi
    refine Ev.step (fun k => ?_) (ih (i + 1) (by omega))
    simp only [tangramref01_SameInts.l0]
    rw [if_pos (by omega), if_pos (by omega), if_pos (by omega), if_pos trivial, wadd (by omega)]
theorem ints_same (xs : List Int) (hl : xs.length ≤ 9000000) : Ev (fun k => tangramref01_SameInts.f k xs xs) true := by
  refine Ev.congr (fun k => ?_) (ints_loop xs hl xs.length 0 (by omega))
  simp only [tangramref01_SameInts.f]
  rw [if_pos trivial]
  rfl
end Go.Proofs.Ytoajoklpbfehiaa.PureV
