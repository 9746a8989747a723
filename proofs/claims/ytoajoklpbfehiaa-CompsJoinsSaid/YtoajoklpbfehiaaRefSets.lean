/- DERIVED. What the printed forms of tangramref05's Sets answer, of a list that tells each number's least. -/
import Derived.Test.YtoajoklpbfehiaaGAllx10
import Derived.Test.YtoajoklpbfehiaaGAllx6
import Derived.Test.YtoajoklpbfehiaaGAllx5
import Derived.Test.YtoajoklpbfehiaaGAllx7
import Derived.Test.YtoajoklpbfehiaaGAllx8
import Derived.Test.YtoajoklpbfehiaaGAllx8
import Derived.Test.YtoajoklpbfehiaaGAllx8
import Derived.Test.YtoajoklpbfehiaaSetsTwo
namespace Go.Proofs.Ytoajoklpbfehiaa.PureR
open Go.RowKit Go.Proofs.YtoajoklpbfehiaaW.PrintWords Go.Proofs.YtoajoklpbfehiaaW.PrintLast Go.Proofs.YtoajoklpbfehiaaW.PrintMore Go.Proofs.Ytoajoklpbfehiaa.GAll Go.Proofs.Ytoajoklpbfehiaa.Sets
set_option linter.unusedVariables false
set_option linter.unusedSimpArgs false
theorem wadd {i n : Nat} (h : i < n) (hn : n ≤ 9000000) : wrap64 ((i : Int) + 1) = ((i + 1 : Nat) : Int) := by rw [IntWalk.wrap64_in _ (by omega)]; omega
theorem ints_len (m : List Nat) : (ints m).length = m.length := List.length_map ..
theorem rd_ints (m : List Nat) (i : Nat) : rd (ints m) (i : Int) = ((gt m i : Nat) : Int) := by
  unfold rd ints gt
  rw [Int.toNat_natCast]
  simp only [List.getD_eq_getElem?_getD, List.getElem?_map]
  cases m[i]? <;> rfl
theorem has_ok (m : List Nat) (a : Int) : tangramref05_has.f (ints m) a = some (ok m a) := by
  unfold tangramref05_has.f ok
  rw [ints_len]
  by_cases c : a ≥ 0
  · rw [if_pos c, decide_eq_true (show 0 ≤ a from c)]; rfl
  · rw [if_neg c, decide_eq_false (show ¬ 0 ≤ a from c)]; rfl
theorem least_ref (m : List Nat) (a : Int) : tangramref05_Least.f (ints m) a = some (Sets.leastOf m a) := by
  unfold tangramref05_Least.f Sets.leastOf
  rw [has_ok, Option.bind_some]
  cases hk : ok m a with
  | false => rfl
  | true =>
    obtain ⟨i, rfl, hi⟩ := ok_nat hk
    rw [if_pos rfl, if_pos (by omega), ints_len, if_pos (by omega), rd_ints, if_pos rfl, Int.toNat_natCast]
theorem same_ref (m : List Nat) (a b : Int) : tangramref05_Same.f (ints m) a b = some (sameOf m a b) := by
  unfold tangramref05_Same.f sameOf
  rw [has_ok, has_ok, Option.bind_some, Option.bind_some]
  cases hk : ok m a with
  | false => rfl
  | true =>
    cases hk2 : ok m b with
    | false => rfl
    | true =>
      obtain ⟨i, rfl, hi⟩ := ok_nat hk
      obtain ⟨j, rfl, hj⟩ := ok_nat hk2
      rw [if_pos rfl, if_pos rfl, ints_len, if_pos (by omega), if_pos (by omega), if_pos (by omega), if_pos (by omega), rd_ints, rd_ints, Int.toNat_natCast, Int.toNat_natCast, beq_cast]
      rfl
/-- how many of the first i numbers have the least r -/
def cnt (m : List Nat) (r i : Nat) : Nat := (List.range i).countP fun j => gt m j == r
theorem cnt_succ (m : List Nat) (r i : Nat) : cnt m r (i + 1) = cnt m r i + if gt m i = r then 1 else 0 := by
  unfold cnt
  rw [List.range_succ, List.countP_append]
  by_cases h : gt m i = r <;> simp [h]
theorem cnt_le (m : List Nat) (r i : Nat) : cnt m r i ≤ i := by
  unfold cnt
  have := List.countP_le_length (p := fun j => gt m j == r) (l := List.range i)
  simpa using this
theorem map_range (m : List Nat) : (List.range m.length).map (gt m) = m := by
  apply list_ext_gt
  · simp
  · intro i hi
    have hi2 : i < m.length := by simpa using hi
    unfold gt
    simp [List.getD_eq_getElem?_getD, hi2]
theorem many_cnt (m : List Nat) (r : Nat) : many m r = cnt m r m.length := by
  unfold many cnt
  conv => lhs; rw [← map_range m]
  rw [List.countP_map]
  rfl
theorem size_loop {m : List Nat} (hn : m.length ≤ 9000000) {a : Int} (hk : ok m a = true) (d : Nat) : ∀ i : Nat, i + d = m.length →
    Ev (fun k => tangramref05_Size.l0 k (ints m) a ((cnt m (gt m a.toNat) i : Nat) : Int) (i : Int)) ((cnt m (gt m a.toNat) m.length : Nat) : Int) := by
  obtain ⟨j, rfl, hj⟩ := ok_nat hk
  rw [Int.toNat_natCast]
  induction d with
  | zero =>
    intro i hi
    obtain rfl : i = m.length := by omega
    refine Ev.step (fun k => ?_) (Ev.step (f := fun _ => some ((cnt m (gt m j) m.length : Nat) : Int)) (fun k => ?_) (Ev.now _)) (f := fun k => tangramref05_Size.j1 k (ints m) (j : Int) ((cnt m (gt m j) m.length : Nat) : Int) (m.length : Int) false)
    · simp only [tangramref05_Size.l0]
      rw [if_neg (by rw [ints_len]; omega)]
    · simp only [tangramref05_Size.j1]; rfl
  | succ d ih =>
    intro i hi
    have h := ih (i + 1) (by omega)
    have hc := cnt_le m (gt m j) i
    refine Ev.step (fun k => ?_) (Ev.step (f := fun k => tangramref05_Size.l0 k (ints m) (j : Int) ((cnt m (gt m j) (i + 1) : Nat) : Int) ((i + 1 : Nat) : Int)) (fun k => ?_) h) (f := fun k => tangramref05_Size.j1 k (ints m) (j : Int) ((cnt m (gt m j) i : Nat) : Int) (i : Int) true)
    · simp only [tangramref05_Size.l0]
      rw [if_pos (by rw [ints_len]; omega), has_ok, hk, Option.bind_some]
    · simp only [tangramref05_Size.j1]
      rw [if_pos trivial, if_pos (by omega), ints_len, if_pos (by omega), if_pos (by omega), if_pos (by omega), rd_ints, rd_ints, wadd (i := i) (n := m.length) (by omega) hn, cnt_succ]
      by_cases c : gt m i = gt m j
      · rw [if_pos (by rw [c]), if_pos c, wadd (n := m.length) (by omega) hn]
      · rw [if_neg (by omega), if_neg c]; rfl
theorem size_none {m : List Nat} (hn : m.length ≤ 9000000) {a : Int} (hk : ok m a = false) (d : Nat) : ∀ i : Nat, i + d = m.length →
    Ev (fun k => tangramref05_Size.l0 k (ints m) a 0 (i : Int)) 0 := by
  intro i hi
  refine Ev.step (f := fun k => tangramref05_Size.j1 k (ints m) a 0 (i : Int) false) (fun k => ?_) (Ev.step (f := fun _ => some (0 : Int)) (fun k => ?_) (Ev.now _))
  · simp only [tangramref05_Size.l0]
    split
    · rw [has_ok, hk, Option.bind_some]
    · rfl
  · simp only [tangramref05_Size.j1]; rfl
theorem size_ref {m : List Nat} (hn : m.length ≤ 9000000) (a : Int) : ∃ k, tangramref05_Size.f k (ints m) a = some (Sets.sizeOf m a) := by
  unfold Sets.sizeOf
  cases hk : ok m a with
  | false => exact Ev.rounds (size_none hn hk m.length 0 (by omega))
  | true =>
    rw [if_pos rfl, many_cnt]
    exact Ev.rounds (size_loop hn hk m.length 0 (by omega))
/-- how many of the first i numbers are their set's least -/
def roots (m : List Nat) (i : Nat) : Nat := (List.range i).countP fun j => gt m j == j
theorem roots_succ (m : List Nat) (i : Nat) : roots m (i + 1) = roots m i + if gt m i = i then 1 else 0 := by
  unfold roots
  rw [List.range_succ, List.countP_append]
  by_cases h : gt m i = i <;> simp [h]
theorem roots_le (m : List Nat) (i : Nat) : roots m i ≤ i := by
  unfold roots
  have := List.countP_le_length (p := fun j => gt m j == j) (l := List.range i)
  simpa using this
theorem count_loop {m : List Nat} (hn : m.length ≤ 9000000) (d : Nat) : ∀ i : Nat, i + d = m.length →
    Ev (fun k => tangramref05_Count.l0 k (ints m) ((roots m i : Nat) : Int) (i : Int)) ((sets m : Nat) : Int) := by
  induction d with
  | zero =>
    intro i hi
    obtain rfl : i = m.length := by omega
    refine Ev.step (f := fun _ => some ((sets m : Nat) : Int)) (fun k => ?_) (Ev.now _)
    simp only [tangramref05_Count.l0]
    rw [if_neg (by rw [ints_len]; omega)]
    rfl
  | succ d ih =>
    intro i hi
    have hc := roots_le m i
    refine Ev.step (fun k => ?_) (ih (i + 1) (by omega))
    simp only [tangramref05_Count.l0]
    rw [if_pos (by rw [ints_len]; omega), if_pos (by omega), rd_ints, wadd (i := i) (n := m.length) (by omega) hn, roots_succ]
    by_cases c : gt m i = i
    · rw [if_pos (by rw [c]), if_pos c, wadd (n := m.length) (by omega) hn]
    · rw [if_neg (by omega), if_neg c]; rfl
theorem count_ref {m : List Nat} (hn : m.length ≤ 9000000) : ∃ k, tangramref05_Count.f k (ints m) = some ((sets m : Nat) : Int) := Ev.rounds (count_loop hn m.length 0 (by omega))
/-- a join, half done -/
def half (m : List Nat) (lo hi i : Nat) : List Nat := (List.range m.length).map fun j => if j < i ∧ gt m j = hi then lo else gt m j
theorem half_len (m : List Nat) (lo hi i : Nat) : (half m lo hi i).length = m.length := by simp [half]
theorem half_get (m : List Nat) (lo hi i : Nat) {j : Nat} (hj : j < m.length) : gt (half m lo hi i) j = if j < i ∧ gt m j = hi then lo else gt m j := by
  unfold half gt
  simp [List.getD_eq_getElem?_getD, hj]
theorem half_zero (m : List Nat) (lo hi : Nat) : half m lo hi 0 = m := by
  apply list_ext_gt (half_len _ _ _ _)
  intro i h
  rw [half_get _ _ _ _ (by rwa [half_len] at h), if_neg (by omega)]
theorem half_all (m : List Nat) (lo hi : Nat) : half m lo hi m.length = glue lo hi m := by
  apply list_ext_gt (by rw [half_len, glue_length])
  intro i h
  rw [half_len] at h
  rw [half_get _ _ _ _ h, glue_get _ _ _ h]
  by_cases c : gt m i = hi
  · rw [if_pos ⟨h, c⟩, if_pos c]
  · rw [if_neg (fun e => c e.2), if_neg c]
theorem half_step (m : List Nat) (lo hi : Nat) {i : Nat} (h : i < m.length) : half m lo hi (i + 1) = if gt m i = hi then (half m lo hi i).set i lo else half m lo hi i := by
  apply list_ext_gt
  · split <;> simp [half_len]
  · intro j hj
    rw [half_len] at hj
    rw [half_get _ _ _ _ hj]
    by_cases c : gt m i = hi
    · rw [if_pos c, getD_set, half_len]
      by_cases e : i = j
      · subst e; rw [if_pos ⟨by omega, c⟩, if_pos ⟨rfl, hj⟩]
      · rw [if_neg (show ¬ (i = j ∧ j < m.length) from fun x => e x.1), half_get _ _ _ _ hj]
        by_cases c2 : j < i ∧ gt m j = hi
        · rw [if_pos c2, if_pos ⟨by omega, c2.2⟩]
        · rw [if_neg c2, if_neg (fun x => c2 ⟨by omega, x.2⟩)]
    · rw [if_neg c, half_get _ _ _ _ hj]
      by_cases c2 : j < i ∧ gt m j = hi
      · rw [if_pos c2, if_pos ⟨by omega, c2.2⟩]
      · rw [if_neg c2, if_neg (fun x => c2 ⟨by
          have : j ≠ i := fun e => c (e ▸ x.2)
          omega, x.2⟩)]
theorem ints_set (m : List Nat) (i lo : Nat) : (ints m).set i (lo : Int) = ints (m.set i lo) := by unfold ints; rw [List.map_set]
theorem join_loop {m : List Nat} (hn : m.length ≤ 9000000) (lo hi : Nat) (hne : lo ≠ hi) (d : Nat) : ∀ i : Nat, i + d = m.length →
    Ev (fun k => tangramref05_Join.l0 k (lo : Int) (hi : Int) (ints (half m lo hi i)) (i : Int)) (ints (glue lo hi m), true) := by
  induction d with
  | zero =>
    intro i hi'
    obtain rfl : i = m.length := by omega
    refine Ev.step (f := fun _ => some (ints (glue lo hi m), true)) (fun k => ?_) (Ev.now _)
    simp only [tangramref05_Join.l0]
    rw [if_neg (by rw [ints_len, half_len]; omega), half_all]
  | succ d ih =>
    intro i hi'
    refine Ev.step (fun k => ?_) (ih (i + 1) (by omega))
    simp only [tangramref05_Join.l0]
    rw [if_pos (by rw [ints_len, half_len]; omega), if_pos (by omega), rd_ints, half_get _ _ _ _ (by omega), if_neg (show ¬ (i < i ∧ gt m i = hi) from fun e => by omega), wadd (n := m.length) (by omega) hn, half_step _ _ _ (by omega)]
    by_cases c : gt m i = hi
    · rw [if_pos (by rw [c]), if_pos c, Int.toNat_natCast, ints_set]
    · rw [if_neg (by omega), if_neg c]
theorem join_ref {m : List Nat} (hn : m.length ≤ 9000000) (a b : Int) : ∃ k, tangramref05_Join.f k (ints m) a b = some (ints (joinOf m a b).1, (joinOf m a b).2) := by
  apply Ev.rounds
  unfold tangramref05_Join.f joinOf
  rw [has_ok, has_ok]
  simp only [Option.bind_some]
  have hno : Ev (fun k => tangramref05_Join.j0 k (ints m) a b true) (ints m, false) := Ev.step (f := fun _ => some (ints m, false)) (fun k => by simp only [tangramref05_Join.j0]; rfl) (Ev.now _)
  cases hk : ok m a with
  | false => simpa using hno
  | true =>
    cases hk2 : ok m b with
    | false => simpa using hno
    | true =>
      obtain ⟨i, rfl, hi⟩ := ok_nat hk
      obtain ⟨j, rfl, hj⟩ := ok_nat hk2
      have h0 : (0 : Int) ≤ (i : Int) := by omega
      have h1 : (0 : Int) ≤ (j : Int) := by omega
      have h2 : (i : Int) < ((ints m).length : Int) := by rw [ints_len]; omega
      have h3 : (j : Int) < ((ints m).length : Int) := by rw [ints_len]; omega
      simp only [if_true, if_pos h0, if_pos h1, if_pos h2, if_pos h3, rd_ints, Int.toNat_natCast, Bool.true_and]
      by_cases c : gt m i = gt m j
      · simp only [c, beq_self_eq_true, bne_self_eq_false, Bool.false_eq_true, if_false]
        exact hno
      · have cb : (((gt m i : Nat) : Int) == ((gt m j : Nat) : Int)) = false := by rw [beq_cast]; simpa using c
        have cn : (gt m i != gt m j) = true := by simpa using c
        simp only [cb, cn, if_true]
        have key : ∀ lo hi : Nat, lo ≠ hi → Ev (fun k => tangramref05_Join.j1 k (ints m) (lo : Int) (hi : Int)) (ints (glue lo hi m), true) := by
          intro lo hi hne
          have h := join_loop hn lo hi hne m.length 0 (by omega)
          rw [half_zero] at h
          refine Ev.step (fun k => ?_) h
          simp only [tangramref05_Join.j1, Option.bind_some, List.nil_append, List.length_nil]
          rw [if_pos (by rw [ints_len]; omega)]
          rfl
        by_cases g : ((gt m i : Nat) : Int) > ((gt m j : Nat) : Int)
        · refine Ev.step (fun k => ?_) (key (min (gt m i) (gt m j)) (max (gt m i) (gt m j)) (by omega))
          simp only [tangramref05_Join.j0, Bool.false_eq_true, if_false, if_pos h0, if_pos h1, if_pos h2, if_pos h3, rd_ints, if_pos g]
          rw [show min (gt m i) (gt m j) = gt m j by omega, show max (gt m i) (gt m j) = gt m i by omega]
        · refine Ev.step (fun k => ?_) (key (min (gt m i) (gt m j)) (max (gt m i) (gt m j)) (by omega))
          simp only [tangramref05_Join.j0, Bool.false_eq_true, if_false, if_pos h0, if_pos h1, if_pos h2, if_pos h3, rd_ints, if_neg g]
          rw [show min (gt m i) (gt m j) = gt m i by omega, show max (gt m i) (gt m j) = gt m j by omega]
theorem few_loop (n : Nat) (d : Nat) : ∀ (i : Nat) (l : List Int), i + d = 12 → l.length ≤ 3 + i → ∃ r : List Int, r.length ≤ 15 ∧ Ev (fun k => tangramlaw05_few.l0 k (n : Int) l (i : Int)) r := by
  induction d with
  | zero =>
    intro i l hi hl
    refine ⟨l, by omega, Ev.step (f := fun _ => some l) (fun k => ?_) (Ev.now _)⟩
    simp only [tangramlaw05_few.l0]
    rw [if_neg (show ¬ (i : Int) < 12 by omega)]
    split <;> rfl
  | succ d ih =>
    intro i l hi hl
    by_cases c : i < n
    · obtain ⟨r, h1, h2⟩ := ih (i + 1) (l ++ [(i : Int)]) (by omega) (by simp; omega)
      refine ⟨r, h1, Ev.step (fun k => ?_) h2⟩
      simp only [tangramlaw05_few.l0]
      rw [if_pos (by omega), if_pos (by omega), if_pos (by omega), wadd (n := 12) (by omega) (by omega)]
    · refine ⟨l, by omega, Ev.step (f := fun _ => some l) (fun k => ?_) (Ev.now _)⟩
      simp only [tangramlaw05_few.l0]
      rw [if_neg (by omega)]
theorem few_ref (n : Nat) : ∃ (k : Nat) (r : List Int), r.length ≤ 15 ∧ tangramlaw05_few.f k (n : Int) = some r := by
  obtain ⟨r, h1, h2⟩ := few_loop n 12 0 [-1, (n : Int), wrap64 ((n : Int) - 1)] (by omega) (by simp)
  obtain ⟨k, hk⟩ := Ev.rounds h2
  exact ⟨k, r, h1, hk⟩
theorem range_snoc (i : Nat) : ints (List.range i) ++ [(i : Int)] = ints (List.range (i + 1)) := by
  unfold ints; rw [List.range_succ, List.map_append]; rfl
theorem new_loop (n : Nat) (hn : n ≤ 1048576) (d : Nat) : ∀ i : Nat, i + d = n → Ev (fun k => tangramref05_New.l0 k (n : Int) (ints (List.range i)) (i : Int)) (ints (List.range n), 0) := by
  induction d with
  | zero =>
    intro i hi
    obtain rfl : i = n := by omega
    refine Ev.step (f := fun _ => some (ints (List.range i), 0)) (fun k => ?_) (Ev.now _)
    simp only [tangramref05_New.l0]
    rw [if_neg (by omega)]
  | succ d ih =>
    intro i hi
    refine Ev.step (fun k => ?_) (ih (i + 1) (by omega))
    simp only [tangramref05_New.l0]
    rw [if_pos (by omega), if_pos (by rw [ints_len, List.length_range]; omega), range_snoc, wadd (n := n) (by omega) (by omega)]
theorem new_ref (n : Nat) (hn : n ≤ 1048576) : ∃ k, tangramref05_New.f k (n : Int) = some (ints (List.range n), 0) := by
  refine Ev.rounds (Ev.step (fun k => ?_) (new_loop n hn n 0 (by omega)))
  simp only [tangramref05_New.f]
  rw [if_neg (by omega), decide_eq_false (show ¬ (n : Int) > 1048576 by omega)]
  simp only [tangramref05_New.j0]
  rfl
/-! ### Groups -/
section
variable {n : Nat} {E : Nat → Nat → Prop} {m : List Nat}
theorem num_at (h : Part n E m) : ∀ k, k ≤ n → ∀ a, a < k → gt (numTo m k).1 a = roots m (gt m a) := by
  intro k
  induction k with
  | zero => intro _ a ha; omega
  | succ k ih =>
    intro hk a ha
    have hl := numTo_length m k
    have hle := h.le k (by omega)
    have hcn := numTo_sets h k (by omega)
    unfold numTo
    by_cases c : gt m k < k
    · rw [if_pos c]
      rcases Nat.lt_or_ge a k with h1 | h1
      · rw [gt_snoc_lt (by omega), ih (by omega) a h1]
      · obtain rfl : a = k := by omega
        rw [gt_snoc_eq (by omega), ih (by omega) _ c, h.idem (by omega)]
    · rw [if_neg c]
      rcases Nat.lt_or_ge a k with h1 | h1
      · rw [gt_snoc_lt (by omega), ih (by omega) a h1]
      · obtain rfl : a = k := by omega
        rw [gt_snoc_eq (by omega), hcn, show gt m a = a by omega]
        rfl
theorem grp_at (nums : List Nat) (c : Nat) : ∀ i, (∀ a, a < i → gt nums a < c) → ∀ j, j < c → gl (grpTo nums c i) j = (List.range i).filter fun a => gt nums a == j := by
  intro i
  induction i with
  | zero =>
    intro _ j hj
    unfold grpTo gl
    simp [List.getD_eq_getElem?_getD, List.getElem?_replicate, hj]
  | succ i ih =>
    intro ha j hj
    have h1 := ih (fun a h => ha a (by omega))
    unfold grpTo
    rw [gl_set, grpTo_length, List.range_succ, List.filter_append]
    by_cases e : gt nums i = j
    · rw [if_pos ⟨e, hj⟩, e, h1 j hj]
      simp [e]
    · rw [if_neg (fun x => e x.1), h1 j hj]
      simp [e]
theorem roots_mono (m : List Nat) {a b : Nat} (h : a ≤ b) : roots m a ≤ roots m b := by
  induction b with
  | zero => obtain rfl : a = 0 := by omega
            exact Nat.le_refl _
  | succ b ih =>
    rcases Nat.lt_or_ge a (b + 1) with h1 | h1
    · have := ih (by omega)
      rw [roots_succ]; omega
    · obtain rfl : a = b + 1 := by omega
      exact Nat.le_refl _
theorem roots_inj (m : List Nat) {a b : Nat} (ha : gt m a = a) (hb : gt m b = b) (h : roots m a = roots m b) : a = b := by
  rcases Nat.lt_trichotomy a b with c | c | c
  · have h1 := roots_mono m (show a + 1 ≤ b by omega)
    rw [roots_succ, if_pos ha] at h1; omega
  · exact c
  · have h1 := roots_mono m (show b + 1 ≤ a by omega)
    rw [roots_succ, if_pos hb] at h1; omega
theorem roots_lt {i : Nat} (hi : i < n) (hr : gt m i = i) : roots m i < roots m n := by
  have h1 := roots_mono m (show i + 1 ≤ n by omega)
  rw [roots_succ, if_pos hr] at h1; omega
theorem group_of (h : Part n E m) {i : Nat} (hi : i < n) (hr : gt m i = i) : gl (groupsOf m) (roots m i) = (List.range n).filter fun a => gt m a == i := by
  have hc : (numTo m m.length).2 = roots m n := by rw [h.len]; exact numTo_sets h n (Nat.le_refl _)
  unfold groupsOf
  rw [grp_at, h.len]
  · apply List.filter_congr
    intro a ha
    have ha : a < n := by simpa using ha
    rw [num_at h n (Nat.le_refl _) a ha]
    by_cases c : gt m a = i
    · rw [c]; simp
    · have : roots m (gt m a) ≠ roots m i := fun e => c (roots_inj m (h.idem ha) hr e)
      rw [beq_eq_false_iff_ne.2 this, beq_eq_false_iff_ne.2 c]
  · intro a ha
    rw [h.len] at ha ⊢
    exact numTo_lt m n a ha
  · rw [hc]; exact roots_lt hi hr
theorem inner_loop (h : Part n E m) (hn : n ≤ 1048576) {i : Nat} (hi : i < n) {gs : List (List Int)} (hgs : gs.length ≤ n) {r : List (List Int)} (next : Ev (fun k => tangramref05_Groups.l0 k (ints m) (gs ++ [ints ((List.range n).filter fun a => gt m a == i)]) ((i + 1 : Nat) : Int)) r) (d : Nat) :
    ∀ j : Nat, j + d = n → Ev (fun k => tangramref05_Groups.l1 k (ints m) gs (i : Int) (ints ((List.range j).filter fun a => gt m a == i)) (j : Int)) r := by
  have hl := h.len
  induction d with
  | zero =>
    intro j hj
    obtain rfl : j = n := by omega
    refine Ev.step (fun k => ?_) next
    simp only [tangramref05_Groups.l1]
    rw [if_neg (by rw [ints_len]; omega), if_pos (by omega), wadd (n := j) (by omega) (by omega)]
  | succ d ih =>
    intro j hj
    have hf := List.length_filter_le (fun a => gt m a == i) (List.range j)
    rw [List.length_range] at hf
    refine Ev.step (fun k => ?_) (ih (j + 1) (by omega))
    simp only [tangramref05_Groups.l1]
    rw [if_pos (by rw [ints_len]; omega), if_pos (by omega), rd_ints, wadd (i := j) (n := n) (by omega) (by omega), List.range_succ, List.filter_append]
    by_cases c : gt m j = i
    · rw [if_pos (by rw [c]), if_pos (by rw [ints_len]; omega)]
      simp [c, ints]
    · rw [if_neg (by omega)]
      simp [c]
theorem outer_loop (h : Part n E m) (hn : n ≤ 1048576) (d : Nat) :
    ∀ i : Nat, i + d = n → Ev (fun k => tangramref05_Groups.l0 k (ints m) (((groupsOf m).take (roots m i)).map ints) (i : Int)) ((groupsOf m).map ints) := by
  have hl := h.len
  have hgl : (groupsOf m).length = roots m n := by rw [groupsOf_length, h.len]; exact numTo_sets h n (Nat.le_refl _)
  induction d with
  | zero =>
    intro i hi
    obtain rfl : i = n := by omega
    refine Ev.step (f := fun _ => some ((groupsOf m).map ints)) (fun k => ?_) (Ev.now _)
    simp only [tangramref05_Groups.l0]
    rw [if_neg (by rw [ints_len]; omega), ← hgl, List.take_length]
  | succ d ih =>
    intro i hi
    have h1 := ih (i + 1) (by omega)
    have hrl := roots_le m i
    by_cases c : gt m i = i
    · have hlt := roots_lt (n := n) (show i < n by omega) c
      have hg := group_of h (show i < n by omega) c
      have e1 : (groupsOf m).take (roots m (i + 1)) = (groupsOf m).take (roots m i) ++ [gl (groupsOf m) (roots m i)] := by
        rw [roots_succ, if_pos c, List.take_succ_eq_append_getElem (by omega)]
        unfold gl
        rw [List.getD_eq_getElem?_getD, List.getElem?_eq_getElem (by omega)]
        rfl
      rw [e1, List.map_append, List.map_cons, List.map_nil, hg] at h1
      have h2 := inner_loop h hn (show i < n by omega) (by rw [List.length_map, List.length_take]; omega) h1 (n - i) i (by omega)
      have e2 : (List.range i).filter (fun a => gt m a == i) = [] := by
        rw [List.filter_eq_nil_iff]
        intro a ha
        have ha : a < i := by simpa using ha
        have := h.le a (by omega)
        intro e
        have e2 : gt m a = i := by simpa using e
        omega
      rw [e2] at h2
      refine Ev.step (fun k => ?_) h2
      simp only [tangramref05_Groups.l0]
      rw [if_pos (by rw [ints_len]; omega), if_pos (by omega), rd_ints, if_pos (by rw [c])]
      rfl
    · rw [roots_succ, if_neg c, Nat.add_zero] at h1
      refine Ev.step (fun k => ?_) h1
      simp only [tangramref05_Groups.l0]
      rw [if_pos (by rw [ints_len]; omega), if_pos (by omega), rd_ints, if_neg (by omega), wadd (n := n) (by omega) (by omega)]
theorem groups_ref (h : Part n E m) (hn : n ≤ 1048576) : ∃ k, tangramref05_Groups.f k (ints m) = some ((groupsOf m).map ints) := by
  have h1 := outer_loop h hn n 0 (by omega)
  exact Ev.rounds h1
end
end Go.Proofs.Ytoajoklpbfehiaa.PureR
