-- Written by a program of this session (wip/tools/printx.py) over the kit's printer and texts of its own; it is no print of print.sh.
import Derived.Test.YtoajoklpbfehiaaGCompsLimitsx0
import Derived.Test.YtoajoklpbfehiaaGCompsLimitsx1
import Derived.Test.YtoajoklpbfehiaaGCompsLimitsx2
namespace Go.Proofs.Ytoajoklpbfehiaa.GCompsLimits
open Go.RowKit Go.Proofs.YtoajoklpbfehiaaW.PrintWords Go.Proofs.YtoajoklpbfehiaaW.PrintLast Go.Proofs.YtoajoklpbfehiaaW.PrintMore
attribute [local go_sem] max2_int min2_int max_two min_two max_three min_three max_four min_four   -- for this text's walks alone
set_option linter.unusedVariables false
set_option linter.unusedSimpArgs false

/-! ### the law's fixed example: told by hand -/
theorem tangramlaw05_fixed.valid : Sets.FixValid := by
  intro b W h0 h1
  have hr : Kd.C k33 W (some ⟨b, 0, none⟩) [(⟨0, 2⟩ : S33)].length [(⟨0, 2⟩ : S33)] := by
    refine ⟨rfl, by simp, fun _ => ⟨_, rfl, ?_⟩⟩
    intro j x hj
    obtain rfl : j = 0 := by
      rcases j with _ | j
      · rfl
      · simp at hj
    obtain rfl : x = ⟨0, 2⟩ := by simpa using hj.symm
    refine ⟨_, rfl, k33_mk W _, ?_⟩
    intro i u hi
    rcases i with _ | _ | i
    · have e : u = .int .i64 0 := by simpa using hi.symm
      rw [e]; exact h0
    · have e : u = .int .i64 2 := by simpa using hi.symm
      rw [e]; exact h1
    · simp at hi
  exact simple_Valid.calls 10 3 (some ⟨b, 0, none⟩) 1 [(⟨0, 2⟩ : S33)] true W hr (by simp) (by kernel_rfl)
theorem tangramlaw05_fixed.same : Sets.FixSame := by
  intro b c W hb hc
  have h1 := Sets.row_own (ok := fun _ => True) hb (Nat.zero_le _) (by simp) trivial
  have h2 := Sets.row_own (ok := fun _ => True) hc (Nat.zero_le _) (by simp) trivial
  obtain ⟨_, _, r1⟩ := Kd.R_reads' h1
  obtain ⟨_, _, r2⟩ := Kd.R_reads' h2
  exact tangramref01_SameInts.calls 10 (some ⟨b, 0, none⟩) 3 [0, 1, 0] (some ⟨c, 0, none⟩) 3 [0, 1, 0] true W r1 (by simp) r2 (by simp) (by kernel_rfl)
def tangramlaw05_fixed.f : Option Bool := some true
theorem tangramlaw05_fixed.calls (r : Bool) (w : World) (h : tangramlaw05_fixed.f = some r) :
    Calls Try.prog 11 #[] w fun e w' => e = .returned (.bool r) ∧ Below w.heap.size w w' := by
  obtain rfl : true = r := by simpa [tangramlaw05_fixed.f] using h
  exact Sets.fixed_calls w tangramlaw05_fixed.valid tangramlaw05_fixed.same

-- NOT PRINTED: function 12 (comps_Sets_Count)

-- NOT PRINTED: function 32 (comps_Sets_has)

-- NOT PRINTED: function 13 (comps_Sets_Least)

-- NOT PRINTED: function 3 (tangramlaw05_CompsLimits)

end Go.Proofs.Ytoajoklpbfehiaa.GCompsLimits
