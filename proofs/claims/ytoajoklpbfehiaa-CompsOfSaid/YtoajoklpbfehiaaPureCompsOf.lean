/- DERIVED. The law CompsOf: what it computes is true. -/
import Derived.Test.YtoajoklpbfehiaaValid
import Derived.Test.YtoajoklpbfehiaaOpen
namespace Go.Proofs.Ytoajoklpbfehiaa.PureX
open Go.RowKit Go.Proofs.YtoajoklpbfehiaaW.PrintWords Go.Proofs.YtoajoklpbfehiaaW.PrintLast Go.Proofs.YtoajoklpbfehiaaW.PrintMore Go.Proofs.Ytoajoklpbfehiaa.GAll Go.Proofs.Ytoajoklpbfehiaa.PureV
set_option linter.unusedVariables false
set_option linter.unusedSimpArgs false
theorem numTo_len (m : List Nat) (i : Nat) : (Sets.numTo m i).1.length = i := by
  induction i with
  | zero => rfl
  | succ i ih =>
    unfold Sets.numTo
    split
    · simp [ih]
    · simp [ih]
theorem fit_of {n : Int} {l : List E} (h : PureV.Good n l) : tangramref05_Of.fit n l = true := by
  obtain ⟨h1, h2, h3, h4⟩ := h
  unfold tangramref05_Of.fit
  simp only [Bool.and_eq_true, decide_eq_true_eq, List.all_eq_true]
  refine ⟨⟨⟨h1, h2⟩, h3⟩, fun x hx => ?_⟩
  obtain ⟨i, hi, rfl⟩ := List.mem_iff_getElem.1 hx
  obtain ⟨⟨e1, e2, e3⟩, _⟩ := h4 i hi
  have e : rdE l (i : Nat) = l[i] := by
    show l.getD ((i : Int).toNat) _ = _
    rw [Int.toNat_natCast, List.getD_eq_getElem?_getD, List.getElem?_eq_getElem hi]
    rfl
  rw [e] at e1 e2 e3
  exact ⟨⟨⟨by omega, by omega⟩, by omega⟩, by omega⟩
theorem compsOf_true (n : Int) (l : List E) : ∃ k, tangramlaw05_CompsOf.f k n l = some true := by
  obtain ⟨b, h1, h2, h3⟩ := valid n l
  obtain ⟨r, i1, i2⟩ := isolated n l
  refine Ev.rounds (Ev.bind (a := true) ⟨0, fun _ _ => rfl⟩ ?_)
  simp only [if_true]
  cases b with
  | false =>
    refine Ev.bind (a := (([] : List Int), (0 : Int), (1 : Int))) (Ev.bind h1 (by simp only [Bool.false_eq_true, if_false]; exact Ev.now _)) ?_
    refine Ev.bind (a := (([] : List Int), (0 : Int), (1 : Int))) (Ev.bind h2 (by simp only [Bool.false_eq_true, if_false]; exact Ev.now _)) ?_
    refine Ev.bind i1 (Ev.bind i2 (Ev.bind (ints_same [] (by simp)) ?_))
    simp only [if_true, beq_self_eq_true]
    exact Ev.now _
  | true =>
    have hg := h3.1 rfl
    have hf := fit_of hg
    obtain ⟨g1, g2, _⟩ := id hg
    refine Ev.bind (a := ((comps_Of.out n l).1.map (fun (x : Nat) => (x : Int)), ((comps_Of.out n l).2 : Int), (0 : Int))) (Ev.bind h1 (by simp only [if_true, g1, g2, and_self]; exact Ev.now _)) ?_
    refine Ev.bind (a := ((comps_Of.out n l).1.map (fun (x : Nat) => (x : Int)), ((comps_Of.out n l).2 : Int), (0 : Int))) (Ev.bind h2 (by simp only [if_true, hf]; exact Ev.now _)) ?_
    refine Ev.bind i1 (Ev.bind i2 (Ev.bind (ints_same _ ?_) ?_))
    · rw [List.length_map]
      unfold comps_Of.out
      rw [numTo_len]
      omega
    · simp only [if_true, beq_self_eq_true]
      exact Ev.now _
theorem CompsOf (a0_0 : Int) (A0_1 : Option Addr) (c0_1 : Nat) (l0_1 : List E) (w : World) (hr0_1 : Kd.C k33 w A0_1 l0_1.length l0_1) (hc0_1 : l0_1.length ≤ c0_1) (g : Open.I64 a0_0 ∧ l0_1.length * 16 ≤ 140737488351232 ∧ ∀ x ∈ l0_1, Open.I64 x.f0 ∧ Open.I64 x.f1) :
    Calls Try.prog 9 #[.agg #[.int .i64 a0_0, .slice A0_1 l0_1.length c0_1]] w fun e w' => e = .returned (.bool true) ∧ Below w.heap.size w w' := by
  obtain ⟨k, h⟩ := compsOf_true a0_0 l0_1
  exact tangramlaw05_CompsOf.calls k a0_0 A0_1 c0_1 l0_1 true w hr0_1 hc0_1 h
end Go.Proofs.Ytoajoklpbfehiaa.PureX
