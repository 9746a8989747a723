/- DERIVED. Joins and paths: what joinOf and joinAll make, by the pairs alone: plain lemmas. -/
import Derived.Test.YtoajoklpbfehiaaSetsOf
import Derived.Test.YtoajoklpbfehiaaSetsConn
namespace Go.Proofs.Ytoajoklpbfehiaa.Sets
set_option linter.unusedVariables false

/-- the pairs of a list between numbers below n -/
def EP (n : Nat) (es : List (Int × Int)) (a b : Nat) : Prop := a < n ∧ b < n ∧ ((a : Int), (b : Int)) ∈ es
theorem ok_iff {m : List Nat} {a : Int} : ok m a = true ↔ 0 ≤ a ∧ a < (m.length : Int) := by
  simp only [ok, Bool.and_eq_true, decide_eq_true_eq]
theorem joinOf_same {m : List Nat} {a b : Nat} (h : gt m a = gt m b) : joinOf m a b = (m, false) := by
  unfold joinOf; rw [if_neg (by simp [h])]
theorem joinOf_out {m : List Nat} {a b : Int} (h : ¬ (ok m a = true ∧ ok m b = true)) : joinOf m a b = (m, false) := by
  unfold joinOf; rw [if_neg (by simp only [Bool.and_eq_true]; exact fun e => h e.1)]
theorem joinOf_two {m : List Nat} {a b : Nat} (ha : a < m.length) (hb : b < m.length) (h : gt m a ≠ gt m b) : joinOf m a b = (glue (min (gt m a) (gt m b)) (max (gt m a) (gt m b)) m, true) := by
  unfold joinOf; rw [if_pos (by simp [ok_of ha, ok_of hb, h])]; simp
theorem joinOf_part {n : Nat} {E : Nat → Nat → Prop} {m : List Nat} (h : Part n E m) (a b : Int) : Part n (fun x y => E x y ∨ (x < n ∧ y < n ∧ (x : Int) = a ∧ (y : Int) = b)) (joinOf m a b).1 := by
  have hl := h.len
  by_cases hk : ok m a = true ∧ ok m b = true
  · obtain ⟨i, rfl, hi⟩ := ok_nat hk.1
    obtain ⟨j, rfl, hj⟩ := ok_nat hk.2
    rw [hl] at hi hj
    by_cases he : gt m i = gt m j
    · rw [joinOf_same he]
      refine h.congr ?_ (fun a b e => .one (.inl e)) ?_
      · rintro x y (e | ⟨hx, hy, _⟩)
        · exact h.inn x y e
        · exact ⟨hx, hy⟩
      · rintro x y (e | ⟨hx, hy, ex, ey⟩)
        · exact .one e
        · obtain rfl : x = i := by omega
          obtain rfl : y = j := by omega
          exact (h.iff hi hj).1 he
    · rw [joinOf_two (by omega) (by omega) he]
      have hg := h.glue (a := i) (b := j) (lo := min (gt m i) (gt m j)) (hi := max (gt m i) (gt m j)) hi hj (by omega) (by omega)
      refine hg.congr ?_ ?_ ?_
      · rintro x y (e | ⟨hx, hy, _⟩)
        · exact h.inn x y e
        · exact ⟨hx, hy⟩
      · rintro x y (e | ⟨rfl, rfl⟩)
        · exact .one (.inl e)
        · exact .one (.inr ⟨hi, hj, rfl, rfl⟩)
      · rintro x y (e | ⟨hx, hy, ex, ey⟩)
        · exact .one (.inl e)
        · exact .one (.inr ⟨by omega, by omega⟩)
  · rw [joinOf_out hk]
    refine h.congr ?_ (fun a b e => .one (.inl e)) ?_
    · rintro x y (e | ⟨hx, hy, _⟩)
      · exact h.inn x y e
      · exact ⟨hx, hy⟩
    · rintro x y (e | ⟨hx, hy, ex, ey⟩)
      · exact .one e
      · exact absurd ⟨ok_iff.2 (by omega), ok_iff.2 (by omega)⟩ hk
theorem joinAll_part_from {n : Nat} (es : List (Int × Int)) : ∀ {E : Nat → Nat → Prop} {m : List Nat}, Part n E m → Part n (fun x y => E x y ∨ EP n es x y) (joinAll m es) := by
  induction es with
  | nil =>
    intro E m h
    exact h.congr (fun a b e => e.elim (h.inn a b) (fun e => by simp [EP] at e)) (fun a b e => .one (.inl e)) (fun a b e => e.elim .one (fun e => by simp [EP] at e))
  | cons e es ih =>
    intro E m h
    have h1 := ih (joinOf_part h e.1 e.2)
    refine h1.congr ?_ ?_ ?_
    · rintro x y (e | ⟨hx, hy, _⟩)
      · exact h.inn x y e
      · exact ⟨hx, hy⟩
    · rintro x y ((e' | ⟨hx, hy, ex, ey⟩) | ⟨hx, hy, hm⟩)
      · exact .one (.inl e')
      · exact .one (.inr ⟨hx, hy, by rw [ex, ey]; exact List.mem_cons_self ..⟩)
      · exact .one (.inr ⟨hx, hy, List.mem_cons_of_mem _ hm⟩)
    · rintro x y (e' | ⟨hx, hy, hm⟩)
      · exact .one (.inl (.inl e'))
      · rcases List.mem_cons.1 hm with he | hm
        · exact .one (.inl (.inr ⟨hx, hy, by rw [← he], by rw [← he]⟩))
        · exact .one (.inr ⟨hx, hy, hm⟩)
theorem joinAll_part (n : Nat) (es : List (Int × Int)) : Part n (EP n es) (joinAll (List.range n) es) := by
  have h := joinAll_part_from es (Part.range n)
  exact h.congr (fun a b e => ⟨e.1, e.2.1⟩) (fun a b e => e.elim (fun e => e.elim) .one) (fun a b e => .one (.inr e))
/-- the number of sets goes down by one just where two were made one -/
theorem sets_join {n : Nat} {E : Nat → Nat → Prop} {m : List Nat} (h : Part n E m) (a b : Int) : sets (joinOf m a b).1 + (if (joinOf m a b).2 = true then 1 else 0) = sets m := by
  have hl := h.len
  by_cases hk : ok m a = true ∧ ok m b = true
  · obtain ⟨i, rfl, hi⟩ := ok_nat hk.1
    obtain ⟨j, rfl, hj⟩ := ok_nat hk.2
    rw [hl] at hi hj
    by_cases he : gt m i = gt m j
    · rw [joinOf_same he]; simp
    · rw [joinOf_two (by omega) (by omega) he]
      have h1 := h.idem hi
      have h2 := h.idem hj
      have h3 := h.lt hi
      have h4 := h.lt hj
      have := sets_glue' (m := m) (lo := min (gt m i) (gt m j)) (hi := max (gt m i) (gt m j)) (by omega) (by omega)
        (by rcases Nat.le_total (gt m i) (gt m j) with e | e
            · rw [Nat.min_eq_left e]; exact h1
            · rw [Nat.min_eq_right e]; exact h2)
        (by rcases Nat.le_total (gt m i) (gt m j) with e | e
            · rw [Nat.max_eq_right e]; exact h2
            · rw [Nat.max_eq_left e]; exact h1)
      simpa using this
  · rw [joinOf_out hk]; simp
end Go.Proofs.Ytoajoklpbfehiaa.Sets
