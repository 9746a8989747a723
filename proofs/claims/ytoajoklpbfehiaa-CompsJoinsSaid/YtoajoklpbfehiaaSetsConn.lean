/- DERIVED. Sets and paths: plain lemmas, no program. A list of least numbers is told by its edges alone, in whatever order they came. -/
import Derived.Test.YtoajoklpbfehiaaSetsPure
namespace Go.Proofs.Ytoajoklpbfehiaa.Sets
set_option linter.unusedVariables false

/-- along pairs, either way -/
inductive Conn (E : Nat → Nat → Prop) : Nat → Nat → Prop where
  | refl (a : Nat) : Conn E a a
  | fwd {a b c : Nat} : Conn E a b → E b c → Conn E a c
  | bwd {a b c : Nat} : Conn E a b → E c b → Conn E a c
theorem Conn.trans {E : Nat → Nat → Prop} {a b c : Nat} (h : Conn E a b) (k : Conn E b c) : Conn E a c := by
  induction k with
  | refl => exact h
  | fwd _ e ih => exact .fwd ih e
  | bwd _ e ih => exact .bwd ih e
theorem Conn.one {E : Nat → Nat → Prop} {a b : Nat} (e : E a b) : Conn E a b := .fwd (.refl a) e
theorem Conn.symm {E : Nat → Nat → Prop} {a b : Nat} (h : Conn E a b) : Conn E b a := by
  induction h with
  | refl => exact .refl _
  | fwd _ e ih => exact (Conn.bwd (.refl _) e).trans ih
  | bwd _ e ih => exact (Conn.fwd (.refl _) e).trans ih
theorem Conn.mono {E F : Nat → Nat → Prop} (hEF : ∀ a b, E a b → Conn F a b) {a b : Nat} (h : Conn E a b) : Conn F a b := by
  induction h with
  | refl => exact .refl _
  | fwd _ e ih => exact ih.trans (hEF _ _ e)
  | bwd _ e ih => exact ih.trans (hEF _ _ e).symm

/-- m tells, by number, the least of those that pairs of E lead to -/
structure Part (n : Nat) (E : Nat → Nat → Prop) (m : List Nat) : Prop where
  len : m.length = n
  inn : ∀ a b, E a b → a < n ∧ b < n
  le : ∀ i, i < n → gt m i ≤ i
  edge : ∀ a b, E a b → gt m a = gt m b
  conn : ∀ i, i < n → Conn E i (gt m i)
theorem Part.const {n : Nat} {E : Nat → Nat → Prop} {m : List Nat} (h : Part n E m) {a b : Nat} (c : Conn E a b) : gt m a = gt m b := by
  induction c with
  | refl => rfl
  | fwd _ e ih => exact ih.trans (h.edge _ _ e)
  | bwd _ e ih => exact ih.trans (h.edge _ _ e).symm
theorem Part.lt {n : Nat} {E : Nat → Nat → Prop} {m : List Nat} (h : Part n E m) {i : Nat} (hi : i < n) : gt m i < n := by have := h.le i hi; omega
theorem Part.idem {n : Nat} {E : Nat → Nat → Prop} {m : List Nat} (h : Part n E m) {i : Nat} (hi : i < n) : gt m (gt m i) = gt m i := (h.const (h.conn i hi)).symm
/-- one number's least is another one's just if pairs lead from one to the other -/
theorem Part.iff {n : Nat} {E : Nat → Nat → Prop} {m : List Nat} (h : Part n E m) {i j : Nat} (hi : i < n) (hj : j < n) : gt m i = gt m j ↔ Conn E i j :=
  ⟨fun e => (h.conn i hi).trans (by rw [e]; exact (h.conn j hj).symm), fun c => h.const c⟩
theorem list_ext_gt {l m : List Nat} (hl : l.length = m.length) (h : ∀ i, i < l.length → gt l i = gt m i) : l = m := by
  apply List.ext_getElem hl
  intro i h1 h2
  have := h i h1
  simpa [gt, List.getD_eq_getElem?_getD, h1, h2] using this
theorem Part.unique {n : Nat} {E F : Nat → Nat → Prop} {m m' : List Nat} (h : Part n E m) (k : Part n F m') (hEF : ∀ a b, E a b → Conn F a b) (hFE : ∀ a b, F a b → Conn E a b) : m = m' := by
  refine list_ext_gt (h.len.trans k.len.symm) (fun i hi => ?_)
  rw [h.len] at hi
  have h1 := k.const ((h.conn i hi).mono hEF)
  have h2 := h.const ((k.conn i hi).mono hFE)
  have h3 := k.le _ (h.lt hi)
  have h4 := h.le _ (k.lt hi)
  omega
theorem Part.congr {n : Nat} {E F : Nat → Nat → Prop} {m : List Nat} (h : Part n E m) (hin : ∀ a b, F a b → a < n ∧ b < n) (hEF : ∀ a b, E a b → Conn F a b) (hFE : ∀ a b, F a b → Conn E a b) : Part n F m :=
  ⟨h.len, hin, h.le, fun a b f => h.const (hFE a b f), fun i hi => (h.conn i hi).mono hEF⟩
theorem Part.range (n : Nat) : Part n (fun _ _ => False) (List.range n) :=
  ⟨by simp, fun _ _ h => h.elim, fun i hi => by rw [range_get hi]; exact Nat.le_refl _, fun _ _ h => h.elim, fun i hi => by rw [range_get hi]; exact .refl _⟩
theorem Part.glue {n : Nat} {E : Nat → Nat → Prop} {m : List Nat} (h : Part n E m) {a b lo hi : Nat} (ha : a < n) (hb : b < n) (hlt : lo < hi) (hor : (gt m a = lo ∧ gt m b = hi) ∨ (gt m a = hi ∧ gt m b = lo)) :
    Part n (fun x y => E x y ∨ (x = a ∧ y = b)) (Sets.glue lo hi m) := by
  have hl := h.len
  have g : ∀ i, i < n → gt (Sets.glue lo hi m) i = if gt m i = hi then lo else gt m i := fun i hi' => glue_get _ _ _ (by omega)
  have cab : Conn (fun x y => E x y ∨ (x = a ∧ y = b)) a b := .one (.inr ⟨rfl, rfl⟩)
  have up : ∀ x y, E x y → Conn (fun x y => E x y ∨ (x = a ∧ y = b)) x y := fun x y e => .one (.inl e)
  have clh : Conn (fun x y => E x y ∨ (x = a ∧ y = b)) hi lo := by
    have c1 := (h.conn a ha).mono up
    have c2 := (h.conn b hb).mono up
    rcases hor with ⟨e1, e2⟩ | ⟨e1, e2⟩
    · rw [e1] at c1; rw [e2] at c2; exact (c2.symm.trans cab.symm).trans c1
    · rw [e1] at c1; rw [e2] at c2; exact (c1.symm.trans cab).trans c2
  refine ⟨by rw [glue_length]; exact hl, ?_, ?_, ?_, ?_⟩
  · rintro x y (e | ⟨rfl, rfl⟩)
    · exact h.inn x y e
    · exact ⟨ha, hb⟩
  · intro i hi'
    rw [g i hi']
    have := h.le i hi'
    split <;> omega
  · rintro x y (e | ⟨rfl, rfl⟩)
    · have := h.inn x y e
      rw [g x this.1, g y this.2, h.edge x y e]
    · rw [g x ha, g y hb]
      rcases hor with ⟨e1, e2⟩ | ⟨e1, e2⟩
      · rw [e1, e2, if_neg (by omega), if_pos rfl]
      · rw [e1, e2, if_pos rfl, if_neg (by omega)]
  · intro i hi'
    have c := (h.conn i hi').mono up
    rw [g i hi']
    split
    · rename_i e; rw [e] at c; exact c.trans clh
    · exact c
end Go.Proofs.Ytoajoklpbfehiaa.Sets
