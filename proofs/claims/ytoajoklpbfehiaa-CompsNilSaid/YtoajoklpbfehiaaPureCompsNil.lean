/- DERIVED. The law CompsNil, walked. -/
import Derived.Test.YtoajoklpbfehiaaGCompsNilx
import Derived.Test.YtoajoklpbfehiaaSetsNil
import Derived.Test.YtoajoklpbfehiaaOpen
namespace Go.Proofs.Ytoajoklpbfehiaa.PureX
open Go.RowKit Go.Proofs.YtoajoklpbfehiaaW.PrintWords Go.Proofs.YtoajoklpbfehiaaW.PrintLast Go.Proofs.YtoajoklpbfehiaaW.PrintMore Go.Proofs.Ytoajoklpbfehiaa.GCompsNil
set_option linter.unusedVariables false
set_option linter.unusedSimpArgs false
set_option maxHeartbeats 1000000 in
theorem CompsNil (a b : Int) (w : World) (g0 : Open.I64 a) (g1 : Open.I64 b) :
    Calls Try.prog 7 #[.int .i64 a, .int .i64 b] w fun e w' => e = .returned (.bool true) ∧ Below w.heap.size w w' := by
  clear g0 g1
  go_enter Try.func7, Try.ntmps7
  go_wp2_with fail
  refine (tangramlaw05_fixed.calls true _ rfl).mono ?_
  rintro e w1 ⟨rfl, hb⟩
  have HB := Aside0.mk hb
  clear hb
  go_wp2_with (first | (go_at_call 17; refine (Sets.join_nil _ _ _).mono ?_; rintro e w' ⟨rfl, rfl⟩) | (go_at_call 13; refine (Sets.least_nil _ _).mono ?_; rintro e w' ⟨rfl, rfl⟩) | (go_at_call 25; refine (Sets.same_nil _ _ _).mono ?_; rintro e w' ⟨rfl, ⟨nd, rfl⟩⟩) | (go_at_call 26; refine (Sets.size_nil _ _).mono ?_; rintro e w' ⟨rfl, rfl⟩) | (go_at_call 12; refine (Sets.count_nil _).mono ?_; rintro e w' ⟨rfl, rfl⟩) | (go_at_call 23; refine (Sets.groups_nil _).mono ?_; rintro e w' ⟨rfl, rfl⟩))
  go_ret
  exact ⟨rfl, pw_below_drewN HB.out _⟩
end Go.Proofs.Ytoajoklpbfehiaa.PureX
