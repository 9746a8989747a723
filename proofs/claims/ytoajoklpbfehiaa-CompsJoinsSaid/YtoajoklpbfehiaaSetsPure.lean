/- DERIVED. Sets of numbers, told by each number's least: plain lemmas, no program. -/
namespace Go.Proofs.Ytoajoklpbfehiaa.Sets
set_option linter.unusedVariables false
/-- the number at a place -/
def gt (l : List Nat) (i : Nat) : Nat := l.getD i 0

/-- lists of numbers: a number's parent, and its set's least -/
structure Rep (P m : List Nat) : Prop where
  len : P.length = m.length
  le : ∀ i, i < m.length → (gt P i) ≤ i
  same : ∀ i, i < m.length → (gt m ((gt P i))) = (gt m i)
  fix : ∀ i, i < m.length → ((gt P i) = i ↔ (gt m i) = i)

theorem getD_set (l : List Nat) (i j x : Nat) : (gt (l.set i x) j) = if i = j ∧ j < l.length then x else (gt l j) := by
  unfold gt
  simp only [List.getD_eq_getElem?_getD, List.getElem?_set]
  by_cases h : i = j
  · subst h
    by_cases h2 : i < l.length
    · simp [h2]
    · simp [h2]
  · simp [h]

theorem Rep.least {P m : List Nat} (h : Rep P m) : ∀ (k i : Nat), i ≤ k → i < m.length → (gt m i) ≤ i ∧ (gt m ((gt m i))) = (gt m i) := by
  intro k
  induction k with
  | zero =>
    intro i hk hi
    obtain rfl : i = 0 := by omega
    have e : (gt P 0) = 0 := by have := h.le 0 hi; omega
    have e2 := (h.fix 0 hi).1 e
    rw [e2]; exact ⟨Nat.le_refl _, e2⟩
  | succ k ih =>
    intro i hk hi
    by_cases e : (gt P i) = i
    · have e2 := (h.fix i hi).1 e
      rw [e2]; exact ⟨Nat.le_refl _, e2⟩
    · have hl := h.le i hi
      have := ih ((gt P i)) (by omega) (by omega)
      rw [h.same i hi] at this
      exact ⟨by omega, this.2⟩

theorem Rep.ml {P m : List Nat} (h : Rep P m) {i : Nat} (hi : i < m.length) : (gt m i) ≤ i := (h.least i i (Nat.le_refl _) hi).1
theorem Rep.mm {P m : List Nat} (h : Rep P m) {i : Nat} (hi : i < m.length) : (gt m ((gt m i))) = (gt m i) := (h.least i i (Nat.le_refl _) hi).2

/-- one step of path halving -/
theorem Rep.halve {P m : List Nat} (h : Rep P m) {a : Nat} (ha : a < m.length) (hne : (gt P a) ≠ a) : Rep (P.set a ((gt P ((gt P a))))) m := by
  have hpa := h.le a ha
  have hp : (gt P a) < m.length := by omega
  have hpp := h.le _ hp
  refine ⟨by simp [h.len], ?_, ?_, ?_⟩
  · intro i hi
    rw [getD_set]; split
    · omega
    · exact h.le i hi
  · intro i hi
    rw [getD_set]; split
    · rename_i c; obtain ⟨rfl, _⟩ := c; rw [h.same _ hp, h.same _ ha]
    · exact h.same i hi
  · intro i hi
    rw [getD_set]; split
    · rename_i c; obtain ⟨rfl, _⟩ := c
      constructor
      · intro e; omega
      · intro e; exact absurd ((h.fix _ ha).2 e) hne
    · exact h.fix i hi

theorem getD_map (f : Nat → Nat) (l : List Nat) {i : Nat} (h : i < l.length) : (gt (l.map f) i) = f ((gt l i)) := by
  simp [gt, List.getD_eq_getElem?_getD, h]

/-- two sets become one -/
def glue (lo hi : Nat) (m : List Nat) : List Nat := m.map fun v => if v = hi then lo else v

theorem glue_length (lo hi : Nat) (m : List Nat) : (glue lo hi m).length = m.length := by simp [glue]
theorem glue_get (lo hi : Nat) (m : List Nat) {i : Nat} (h : i < m.length) : (gt (glue lo hi m) i) = if (gt m i) = hi then lo else (gt m i) := getD_map _ m h

theorem Rep.glue {P m : List Nat} (h : Rep P m) {lo hi : Nat} (hh : hi < m.length) (hl : lo < hi) (hlo : (gt m lo) = lo) (hhi : (gt m hi) = hi) : Rep (P.set hi lo) (Sets.glue lo hi m) := by
  have hPl := h.len
  refine ⟨by simp [glue_length, h.len], ?_, ?_, ?_⟩
  · intro i hi'
    rw [glue_length] at hi'
    rw [getD_set]; split
    · omega
    · exact h.le i hi'
  · intro i hi'
    rw [glue_length] at hi'
    have hp := h.le i hi'
    have hsame := h.same i hi'
    rw [getD_set]; split
    · rename_i c; obtain ⟨rfl, _⟩ := c
      rw [glue_get _ _ _ (by omega), glue_get _ _ _ (by omega), hlo, hhi]; simp
    · rw [glue_get _ _ _ (by omega), glue_get _ _ _ hi', hsame]
  · intro i hi'
    rw [glue_length] at hi'
    have hfix := h.fix i hi'
    rw [getD_set, glue_get _ _ _ hi']; split
    · rename_i c; obtain ⟨rfl, _⟩ := c
      rw [hhi]; simp
    · rename_i c
      have hne : i ≠ hi := by intro e; exact c ⟨e.symm, by omega⟩
      rw [hfix]
      split
      · rename_i e
        constructor
        · intro e2; omega
        · intro e2; rw [← e2, hlo] at e; omega
      · exact Iff.rfl

/-- each number in a set of its own -/
theorem range_get {n i : Nat} (hi : i < n) : (gt (List.range n) i) = i := by simp [gt, List.getD_eq_getElem?_getD, hi]
theorem Rep.range (n : Nat) : Rep (List.range n) (List.range n) := by
  refine ⟨rfl, ?_, ?_, ?_⟩ <;> intro i hi <;> simp only [List.length_range] at hi
  · rw [range_get hi]; exact Nat.le_refl _
  · rw [range_get hi]; exact range_get hi
  · exact Iff.rfl

/-- how many numbers have this least -/
def many (m : List Nat) (r : Nat) : Nat := m.countP fun v => v == r
/-- how many sets -/
def sets (m : List Nat) : Nat := (List.range m.length).countP fun i => (gt m i) == i

theorem many_glue_lo (lo hi : Nat) (m : List Nat) (h : lo ≠ hi) : many (glue lo hi m) lo = many m lo + many m hi := by
  induction m with
  | nil => rfl
  | cons a m ih =>
    simp only [many, glue, List.map_cons, List.countP_cons] at ih ⊢
    rw [ih]
    by_cases e : a = hi
    · subst e; simp [Ne.symm h]; omega
    · simp only [e, if_false]
      by_cases e2 : a = lo
      · subst e2; simp [h]; omega
      · simp [e2, e]

theorem many_glue_other (lo hi r : Nat) (m : List Nat) (h1 : r ≠ lo) (h2 : r ≠ hi) : many (glue lo hi m) r = many m r := by
  induction m with
  | nil => rfl
  | cons a m ih =>
    simp only [many, glue, List.map_cons, List.countP_cons] at ih ⊢
    rw [ih]
    by_cases e : a = hi
    · subst e; simp [Ne.symm h1, Ne.symm h2]
    · simp [e]

theorem countP_one {f g : Nat → Bool} {b : Nat} : ∀ (l : List Nat), l.Nodup → b ∈ l → (∀ i ∈ l, i ≠ b → f i = g i) → f b = false → g b = true → l.countP f + 1 = l.countP g := by
  intro l
  induction l with
  | nil => intro _ h; simp at h
  | cons a l ih =>
    intro hnd hb hfg h1 h2
    rw [List.nodup_cons] at hnd
    simp only [List.countP_cons]
    by_cases e : a = b
    · subst e
      have : l.countP f = l.countP g := List.countP_congr fun i hi => by rw [hfg i (List.mem_cons_of_mem _ hi) (fun e => hnd.1 (e ▸ hi))]
      simp [this, h1, h2]
    · have hb' : b ∈ l := by simpa [Ne.symm e] using hb
      have := ih hnd.2 hb' (fun i hi => hfg i (List.mem_cons_of_mem _ hi)) h1 h2
      rw [hfg a (List.mem_cons_self ..) e]; omega

theorem sets_glue' {m : List Nat} {lo hi : Nat} (hh : hi < m.length) (hl : lo < hi) (hlo : (gt m lo) = lo) (hhi : (gt m hi) = hi) : sets (Sets.glue lo hi m) + 1 = sets m := by
  unfold sets
  rw [glue_length]
  refine countP_one (b := hi) _ List.nodup_range (by simpa using hh) ?_ ?_ ?_
  · intro i hi' hne
    have hi' : i < m.length := by simpa using hi'
    rw [glue_get _ _ _ hi', Bool.eq_iff_iff, beq_iff_eq, beq_iff_eq]
    split
    · rename_i e
      constructor
      · intro e2; rw [← e2, hlo] at e; omega
      · intro e2; omega
    · exact Iff.rfl
  · rw [glue_get _ _ _ hh, hhi]; simp; omega
  · simpa using hhi

theorem sets_glue {P m : List Nat} (h : Rep P m) {lo hi : Nat} (hh : hi < m.length) (hl : lo < hi) (hlo : gt m lo = lo) (hhi : gt m hi = hi) : sets (Sets.glue lo hi m) + 1 = sets m := sets_glue' hh hl hlo hhi

theorem many_le (m : List Nat) (r : Nat) : many m r ≤ m.length := List.countP_le_length
theorem sets_le (m : List Nat) : sets m ≤ m.length := by have := List.countP_le_length (l := List.range m.length) (p := fun i => (gt m i) == i); simpa [sets] using this
theorem many_pair (m : List Nat) {r s : Nat} (h : r ≠ s) : many m r + many m s ≤ m.length := by rw [← many_glue_lo r s m h]; have := many_le (glue r s m) r; rwa [glue_length] at this

/-- sizes: by a set's least -/
structure Sized (S m : List Nat) : Prop where
  len : S.length = m.length
  size : ∀ r, r < m.length → (gt m r) = r → (gt S r) = many m r

theorem Sized.glue {S m : List Nat} (h : Sized S m) {lo hi : Nat} (hh : hi < m.length) (hl : lo < hi) (hlo : (gt m lo) = lo) (hhi : (gt m hi) = hi) : Sized (S.set lo ((gt S lo) + (gt S hi))) (Sets.glue lo hi m) := by
  have hSl := h.len
  refine ⟨by simp [glue_length, h.len], ?_⟩
  intro r hr hrr
  rw [glue_length] at hr
  rw [glue_get _ _ _ hr] at hrr
  rw [getD_set]; split
  · rename_i c; obtain ⟨rfl, _⟩ := c
    rw [h.size _ hr hlo, h.size _ hh hhi, many_glue_lo _ _ _ (by omega)]
  · rename_i c
    have hne : r ≠ lo := by intro e; exact c ⟨e.symm, by omega⟩
    have hne2 : r ≠ hi := by
      intro e; subst e; rw [hhi] at hrr; simp at hrr; omega
    rw [many_glue_other _ _ _ _ hne hne2]
    split at hrr
    · omega
    · exact h.size r hr hrr

theorem many_range {n r : Nat} (h : r < n) : many (List.range n) r = 1 := by
  unfold many
  rw [show (fun v => v == r) = (· == r) from rfl]
  have : List.count r (List.range n) = 1 := List.nodup_range.count (a := r) ▸ by simp [h]
  simpa [List.count] using this
theorem Sized.ones (n : Nat) : Sized (List.replicate n 1) (List.range n) := by
  refine ⟨by simp, ?_⟩
  intro r hr _
  have hr' : r < n := by simpa using hr
  rw [many_range hr']; simp [gt, List.getD_eq_getElem?_getD, hr']
theorem sets_range (n : Nat) : sets (List.range n) = n := by
  unfold sets
  have : (List.range (List.range n).length).countP (fun i => (gt (List.range n) i) == i) = (List.range (List.range n).length).length := by
    rw [List.countP_eq_length]; intro i hi; rw [List.length_range, List.mem_range] at hi; rw [range_get hi]; simp
  rw [this]; simp
end Go.Proofs.Ytoajoklpbfehiaa.Sets
