/- DERIVED. Lists are the same as themselves, the document says so. -/
import Derived.Test.YtoajoklpbfehiaaGAllx9
namespace Go.Proofs.Ytoajoklpbfehiaa.PureL
open Go.RowKit Go.Proofs.YtoajoklpbfehiaaW.PrintWords Go.Proofs.YtoajoklpbfehiaaW.PrintLast Go.Proofs.YtoajoklpbfehiaaW.PrintMore Go.Proofs.Ytoajoklpbfehiaa.GAll
set_option linter.unusedVariables false
set_option linter.unusedSimpArgs false
theorem wadd {i n : Nat} (h : i < n) (hn : n ≤ 9223372036854775807) : wrap64 ((i : Int) + 1) = ((i + 1 : Nat) : Int) := by rw [IntWalk.wrap64_in _ (by omega)]; omega
theorem ints_loop (xs : List Int) (hl : xs.length ≤ 9223372036854775807) (d : Nat) : ∀ i : Nat, i + d = xs.length → Ev (fun k => tangramref01_SameInts.l0 k xs xs (i : Int)) true := by
  induction d with
  | zero =>
    intro i hi
    refine Ev.step (f := fun _ => some true) (fun k => ?_) (Ev.now _)
    simp only [tangramref01_SameInts.l0]
    rw [if_neg (by omega)]
  | succ d ih =>
    intro i hi
    refine Ev.step (fun k => ?_) (ih (i + 1) (by omega))
    simp only [tangramref01_SameInts.l0]
    rw [if_pos (by omega), if_pos (by omega), if_pos (by omega), if_pos trivial, wadd (n := xs.length) (by omega) hl]
theorem ints_same (xs : List Int) (hl : xs.length ≤ 9223372036854775807) : Ev (fun k => tangramref01_SameInts.f k xs xs) true := by
  refine Ev.congr (fun k => ?_) (ints_loop xs hl xs.length 0 (by omega))
  simp only [tangramref01_SameInts.f]
  rw [if_pos trivial]
  rfl
theorem lists_loop (xs : List (List Int)) (hl : xs.length ≤ 9223372036854775807) (hi : ∀ x ∈ xs, x.length ≤ 9223372036854775807) (d : Nat) : ∀ i : Nat, i + d = xs.length → Ev (fun k => tangramref01_SameLists.l0 k xs xs (i : Int)) true := by
  induction d with
  | zero =>
    intro i hi
    refine Ev.step (f := fun _ => some true) (fun k => ?_) (Ev.now _)
    simp only [tangramref01_SameLists.l0]
    rw [if_neg (by omega)]
  | succ d ih =>
    intro i hd
    refine Ev.step (f := fun k => (tangramref01_SameInts.f k (xs.getD i []) (xs.getD i [])).bind fun t => if t = true then tangramref01_SameLists.l0 k xs xs ((i + 1 : Nat) : Int) else some false) (fun k => ?_) (Ev.bind (ints_same _ (hi _ ?_)) ?_)
    · simp only [tangramref01_SameLists.l0]
      rw [if_pos (by omega), if_pos (by omega), if_pos (by omega), wadd (n := xs.length) (by omega) hl]
      rfl
    · rw [List.getD_eq_getElem?_getD, List.getElem?_eq_getElem (by omega)]
      exact List.getElem_mem _
    · simp only [if_true]
      exact ih (i + 1) (by omega)
theorem lists_same (xs : List (List Int)) (hl : xs.length ≤ 9223372036854775807) (hi : ∀ x ∈ xs, x.length ≤ 9223372036854775807) : ∃ k, tangramref01_SameLists.f k xs xs = some true := by
  refine Ev.rounds (Ev.congr (fun k => ?_) (lists_loop xs hl hi xs.length 0 (by omega)))
  simp only [tangramref01_SameLists.f]
  rw [if_pos trivial]
  rfl
end Go.Proofs.Ytoajoklpbfehiaa.PureL
