/-
  No cell of these rows narrows 'for every input' (looked for: loops, veiled, ifaces, maps, wideKeys, modest, calm, conditions, laid).
  DERIVED. THE GIVEN ROWS OF THIS SEAT. 7 by the template 'for every input the law returns true; each argument reads behind the call as it read before'; 0 by the template 'total and deterministic' (their statements: YtoajoklpbfehiaaTotals.lean).
  GIVEN WITH THE SEED: the statements are not yours to turn. If you find one false, say at which input.
  Laid BY PROGRAM, IN A SANDBOX (cutbox-rows.mjs): the forced cells as the released guide's own fill.sh prints them over the translation 9ac947c215070dfb… (all of the seat's roots in one cut). By AI agents, Wed Nov 11 2026. No macro, syntax, notation, axiom, sorry.
-/
import Derived.Test.YtoajoklpbfehiaaChecked
import GoSem.Claim
import GoSem.ClaimJoined
import GoSem.ClaimMapViews
import Derived.JoinedTies
import Derived.KernelRfl
namespace Go.Proofs.Ytoajoklpbfehiaa
/- THE CELL 'sum', in the pinned program and in every row, IS THE sha256 OF THE DUMP (.gsa) THAT YtoajoklpbfehiaaProg.lean LOADS. Nothing in Lean hashes anything: it is a label: what it is worth is what the hold of that sum in a sandbox is worth. -/
noncomputable def Try.pinned : Pinned := { name := "ytoajoklpbfehiaa", sum := "9ac947c215070dfb590b9abca3856338f25effa4d88d55ebd7e90a04b77fe504", checked := Try.checked }
namespace Rows
def none {H : Type} : Left H := { results := [], args := [] }

/-- 'tangramlaw05.CompsLimits': WHATEVER THE INPUT: true; the input reads as it did. -/
def compsLimitsSpec : ChangeSpec := { name := "compsLimits", fn := fun _ => fun
  | [] => { results := [.lit (.bool true)], args := [] }
  | _ => none }
def compsLimitsRow : OpenClaim := { program := "ytoajoklpbfehiaa", sum := "9ac947c215070dfb590b9abca3856338f25effa4d88d55ebd7e90a04b77fe504", func := "tangram/tangramlaw05.CompsLimits", spec := "compsLimits", apart := false }
def CompsLimitsSaid : Prop := compsLimitsRow.holds Try.pinned (OpenSpec.ofChange compsLimitsSpec)

/-- ITS FALSE NEIGHBOUR: 'it returns false'. Refute it at one input. -/
def compsLimitsWrong : ChangeSpec := { name := "compsLimits", fn := fun _ => fun
  | [] => { results := [.lit (.bool false)], args := [] }
  | _ => none }
def CompsLimitsWrongFalsely : Prop := compsLimitsRow.holds Try.pinned (OpenSpec.ofChange compsLimitsWrong)

/-- 'tangramlaw05.CompsPaths': WHATEVER THE INPUT: true; the input reads as it did. -/
def compsPathsSpec : ChangeSpec := { name := "compsPaths", fn := fun _ => fun
  | [d1, d2] => { results := [.lit (.bool true)], args := [d1, d2] }
  | _ => none }
def compsPathsRow : OpenClaim := { program := "ytoajoklpbfehiaa", sum := "9ac947c215070dfb590b9abca3856338f25effa4d88d55ebd7e90a04b77fe504", func := "tangram/tangramlaw05.CompsPaths", spec := "compsPaths", apart := false }
def CompsPathsSaid : Prop := compsPathsRow.holds Try.pinned (OpenSpec.ofChange compsPathsSpec)

/-- ITS FALSE NEIGHBOUR: 'it returns false'. Refute it at one input. -/
def compsPathsWrong : ChangeSpec := { name := "compsPaths", fn := fun _ => fun
  | [d1, d2] => { results := [.lit (.bool false)], args := [d1, d2] }
  | _ => none }
def CompsPathsWrongFalsely : Prop := compsPathsRow.holds Try.pinned (OpenSpec.ofChange compsPathsWrong)

/-- 'tangramlaw05.CompsJoins': WHATEVER THE INPUT: true; the input reads as it did. -/
def compsJoinsSpec : ChangeSpec := { name := "compsJoins", fn := fun _ => fun
  | [d1, d2] => { results := [.lit (.bool true)], args := [d1, d2] }
  | _ => none }
def compsJoinsRow : OpenClaim := { program := "ytoajoklpbfehiaa", sum := "9ac947c215070dfb590b9abca3856338f25effa4d88d55ebd7e90a04b77fe504", func := "tangram/tangramlaw05.CompsJoins", spec := "compsJoins", apart := false }
def CompsJoinsSaid : Prop := compsJoinsRow.holds Try.pinned (OpenSpec.ofChange compsJoinsSpec)

/-- ITS FALSE NEIGHBOUR: 'it returns false'. Refute it at one input. -/
def compsJoinsWrong : ChangeSpec := { name := "compsJoins", fn := fun _ => fun
  | [d1, d2] => { results := [.lit (.bool false)], args := [d1, d2] }
  | _ => none }
def CompsJoinsWrongFalsely : Prop := compsJoinsRow.holds Try.pinned (OpenSpec.ofChange compsJoinsWrong)

/-- 'tangramlaw05.CompsOrder': WHATEVER THE INPUT: true; the input reads as it did. -/
def compsOrderSpec : ChangeSpec := { name := "compsOrder", fn := fun _ => fun
  | [d1, d2, d3] => { results := [.lit (.bool true)], args := [d1, d2, d3] }
  | _ => none }
def compsOrderRow : OpenClaim := { program := "ytoajoklpbfehiaa", sum := "9ac947c215070dfb590b9abca3856338f25effa4d88d55ebd7e90a04b77fe504", func := "tangram/tangramlaw05.CompsOrder", spec := "compsOrder", apart := false }
def CompsOrderSaid : Prop := compsOrderRow.holds Try.pinned (OpenSpec.ofChange compsOrderSpec)

/-- ITS FALSE NEIGHBOUR: 'it returns false'. Refute it at one input. -/
def compsOrderWrong : ChangeSpec := { name := "compsOrder", fn := fun _ => fun
  | [d1, d2, d3] => { results := [.lit (.bool false)], args := [d1, d2, d3] }
  | _ => none }
def CompsOrderWrongFalsely : Prop := compsOrderRow.holds Try.pinned (OpenSpec.ofChange compsOrderWrong)

/-- 'tangramlaw05.CompsNil': WHATEVER THE INPUT: true; the input reads as it did. -/
def compsNilSpec : ChangeSpec := { name := "compsNil", fn := fun _ => fun
  | [d1, d2] => { results := [.lit (.bool true)], args := [d1, d2] }
  | _ => none }
def compsNilRow : OpenClaim := { program := "ytoajoklpbfehiaa", sum := "9ac947c215070dfb590b9abca3856338f25effa4d88d55ebd7e90a04b77fe504", func := "tangram/tangramlaw05.CompsNil", spec := "compsNil", apart := false }
def CompsNilSaid : Prop := compsNilRow.holds Try.pinned (OpenSpec.ofChange compsNilSpec)

/-- ITS FALSE NEIGHBOUR: 'it returns false'. Refute it at one input. -/
def compsNilWrong : ChangeSpec := { name := "compsNil", fn := fun _ => fun
  | [d1, d2] => { results := [.lit (.bool false)], args := [d1, d2] }
  | _ => none }
def CompsNilWrongFalsely : Prop := compsNilRow.holds Try.pinned (OpenSpec.ofChange compsNilWrong)

/-- 'tangramlaw05.CompsMemory': WHATEVER THE INPUT: true; the input reads as it did. -/
def compsMemorySpec : ChangeSpec := { name := "compsMemory", fn := fun _ => fun
  | [d1, d2] => { results := [.lit (.bool true)], args := [d1, d2] }
  | _ => none }
def compsMemoryRow : OpenClaim := { program := "ytoajoklpbfehiaa", sum := "9ac947c215070dfb590b9abca3856338f25effa4d88d55ebd7e90a04b77fe504", func := "tangram/tangramlaw05.CompsMemory", spec := "compsMemory", apart := false }
def CompsMemorySaid : Prop := compsMemoryRow.holds Try.pinned (OpenSpec.ofChange compsMemorySpec)

/-- ITS FALSE NEIGHBOUR: 'it returns false'. Refute it at one input. -/
def compsMemoryWrong : ChangeSpec := { name := "compsMemory", fn := fun _ => fun
  | [d1, d2] => { results := [.lit (.bool false)], args := [d1, d2] }
  | _ => none }
def CompsMemoryWrongFalsely : Prop := compsMemoryRow.holds Try.pinned (OpenSpec.ofChange compsMemoryWrong)

/-- 'tangramlaw05.CompsOf': WHATEVER THE INPUT: true; the input reads as it did. -/
def compsOfSpec : ChangeSpec := { name := "compsOf", fn := fun _ => fun
  | [d] => { results := [.lit (.bool true)], args := [d] }
  | _ => none }
def compsOfRow : OpenClaim := { program := "ytoajoklpbfehiaa", sum := "9ac947c215070dfb590b9abca3856338f25effa4d88d55ebd7e90a04b77fe504", func := "tangram/tangramlaw05.CompsOf", spec := "compsOf", apart := false }
def CompsOfSaid : Prop := compsOfRow.holds Try.pinned (OpenSpec.ofChange compsOfSpec)

/-- ITS FALSE NEIGHBOUR: 'it returns false'. Refute it at one input. -/
def compsOfWrong : ChangeSpec := { name := "compsOf", fn := fun _ => fun
  | [d] => { results := [.lit (.bool false)], args := [d] }
  | _ => none }
def CompsOfWrongFalsely : Prop := compsOfRow.holds Try.pinned (OpenSpec.ofChange compsOfWrong)

/- THE SECOND FORM. 'bulk': how many values and letters a reading holds, each counted each time it is reached (what is shared counts as often as it is met; a slice's spare places count too). A statement '..UptoSaid' is the law's where the arguments, and the package variables that the reading takes, are together of bulk at most 1048576: NARROWER than '..Said'. Prove '..Said' where nothing that the law and all that it calls make is longer than what came in: it says more and counts as full. Else prove '..UptoSaid'. A law counts once. -/
mutual
def uptoBulk {H : Type} : DataW H → Nat
  | .lit (.string bytes) => bytes.length + 1
  | .lit _ => 1
  | .nil => 1
  | .ptr d => uptoBulk d + 1
  | .slice elems spare => uptoBulkAll elems + uptoBulkAll spare + 1
  | .agg parts => uptoBulkAll parts + 1
  | .iface _ d => uptoBulk d + 1
  | .map entries => uptoBulkEntries entries + 1
  | .held _ => 1
def uptoBulkAll {H : Type} : List (DataW H) → Nat
  | [] => 0
  | d :: r => uptoBulk d + uptoBulkAll r
def uptoBulkEntries {H : Type} : List (Lit × DataW H) → Nat
  | [] => 0
  | x :: r => uptoBulkEntry x + uptoBulkEntries r
def uptoBulkEntry {H : Type} : Lit × DataW H → Nat
  | (.string bytes, d) => bytes.length + uptoBulk d + 1
  | (_, d) => uptoBulk d + 1
 end
def uptoSmall : (H : Type) → List (DataW H) → Bool := fun _ ds => decide (uptoBulkAll ds ≤ 1048576)
def OpenSpec.upto (s : _root_.Go.ChangeSpec) : _root_.Go.OpenSpec := { _root_.Go.OpenSpec.ofChange s with cond := some uptoSmall }

/-- 'tangramlaw05.CompsLimits', WHERE WHAT IT READS IS OF BULK AT MOST 1048576: true; the input reads as it did. -/
def compsLimitsUptoRow : OpenClaim := { program := "ytoajoklpbfehiaa", sum := "9ac947c215070dfb590b9abca3856338f25effa4d88d55ebd7e90a04b77fe504", func := "tangram/tangramlaw05.CompsLimits", spec := "compsLimits", apart := false, narrowed := true }
def CompsLimitsUptoSaid : Prop := compsLimitsUptoRow.holds Try.pinned (OpenSpec.upto compsLimitsSpec)

/-- 'tangramlaw05.CompsPaths', WHERE WHAT IT READS IS OF BULK AT MOST 1048576: true; the input reads as it did. -/
def compsPathsUptoRow : OpenClaim := { program := "ytoajoklpbfehiaa", sum := "9ac947c215070dfb590b9abca3856338f25effa4d88d55ebd7e90a04b77fe504", func := "tangram/tangramlaw05.CompsPaths", spec := "compsPaths", apart := false, narrowed := true }
def CompsPathsUptoSaid : Prop := compsPathsUptoRow.holds Try.pinned (OpenSpec.upto compsPathsSpec)

/-- 'tangramlaw05.CompsJoins', WHERE WHAT IT READS IS OF BULK AT MOST 1048576: true; the input reads as it did. -/
def compsJoinsUptoRow : OpenClaim := { program := "ytoajoklpbfehiaa", sum := "9ac947c215070dfb590b9abca3856338f25effa4d88d55ebd7e90a04b77fe504", func := "tangram/tangramlaw05.CompsJoins", spec := "compsJoins", apart := false, narrowed := true }
def CompsJoinsUptoSaid : Prop := compsJoinsUptoRow.holds Try.pinned (OpenSpec.upto compsJoinsSpec)

/-- 'tangramlaw05.CompsOrder', WHERE WHAT IT READS IS OF BULK AT MOST 1048576: true; the input reads as it did. -/
def compsOrderUptoRow : OpenClaim := { program := "ytoajoklpbfehiaa", sum := "9ac947c215070dfb590b9abca3856338f25effa4d88d55ebd7e90a04b77fe504", func := "tangram/tangramlaw05.CompsOrder", spec := "compsOrder", apart := false, narrowed := true }
def CompsOrderUptoSaid : Prop := compsOrderUptoRow.holds Try.pinned (OpenSpec.upto compsOrderSpec)

/-- 'tangramlaw05.CompsNil', WHERE WHAT IT READS IS OF BULK AT MOST 1048576: true; the input reads as it did. -/
def compsNilUptoRow : OpenClaim := { program := "ytoajoklpbfehiaa", sum := "9ac947c215070dfb590b9abca3856338f25effa4d88d55ebd7e90a04b77fe504", func := "tangram/tangramlaw05.CompsNil", spec := "compsNil", apart := false, narrowed := true }
def CompsNilUptoSaid : Prop := compsNilUptoRow.holds Try.pinned (OpenSpec.upto compsNilSpec)

/-- 'tangramlaw05.CompsMemory', WHERE WHAT IT READS IS OF BULK AT MOST 1048576: true; the input reads as it did. -/
def compsMemoryUptoRow : OpenClaim := { program := "ytoajoklpbfehiaa", sum := "9ac947c215070dfb590b9abca3856338f25effa4d88d55ebd7e90a04b77fe504", func := "tangram/tangramlaw05.CompsMemory", spec := "compsMemory", apart := false, narrowed := true }
def CompsMemoryUptoSaid : Prop := compsMemoryUptoRow.holds Try.pinned (OpenSpec.upto compsMemorySpec)

/-- 'tangramlaw05.CompsOf', WHERE WHAT IT READS IS OF BULK AT MOST 1048576: true; the input reads as it did. -/
def compsOfUptoRow : OpenClaim := { program := "ytoajoklpbfehiaa", sum := "9ac947c215070dfb590b9abca3856338f25effa4d88d55ebd7e90a04b77fe504", func := "tangram/tangramlaw05.CompsOf", spec := "compsOf", apart := false, narrowed := true }
def CompsOfUptoSaid : Prop := compsOfUptoRow.holds Try.pinned (OpenSpec.upto compsOfSpec)

end Rows
end Go.Proofs.Ytoajoklpbfehiaa
