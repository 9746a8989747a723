/-
  No cell of these rows narrows 'for every input' (looked for: loops, veiled, ifaces, maps, wideKeys, modest, calm, conditions, laid).
  DERIVED. THE GIVEN ROWS OF THIS SEAT. 8 by the template 'for every input the law returns true; each argument reads behind the call as it read before'; 0 by the template 'total and deterministic' (their statements: YteeihjpnhjnknaaTotals.lean).
  GIVEN WITH THE SEED: the statements are not yours to turn. If you find one false, say at which input.
  Laid BY PROGRAM, IN A SANDBOX (cutbox-rows.mjs): the forced cells as the released guide's own fill.sh prints them over the translation 8f4d0246cd8bc3b7… (all of the seat's roots in one cut). By AI agents, Wed Nov 11 2026. No macro, syntax, notation, axiom, sorry.
-/
import Derived.Test.YteeihjpnhjnknaaChecked
import GoSem.Claim
import GoSem.ClaimJoined
import GoSem.ClaimMapViews
import Derived.JoinedTies
import Derived.KernelRfl
namespace Go.Proofs.Yteeihjpnhjnknaa
/- THE CELL 'sum', in the pinned program and in every row, IS THE sha256 OF THE DUMP (.gsa) THAT YteeihjpnhjnknaaProg.lean LOADS. Nothing in Lean hashes anything: it is a label: what it is worth is what the hold of that sum in a sandbox is worth. -/
noncomputable def Try.pinned : Pinned := { name := "yteeihjpnhjnknaa", sum := "8f4d0246cd8bc3b7b4446a200187c867749a61ebed8eca08e480401db125012c", checked := Try.checked }
namespace Rows
def none {H : Type} : Left H := { results := [], args := [] }

/-- 'tangramlaw21.CanonRooted': WHATEVER THE INPUT: true; the input reads as it did. -/
def canonRootedSpec : ChangeSpec := { name := "canonRooted", fn := fun _ => fun
  | [d1, d2, d3] => { results := [.lit (.bool true)], args := [d1, d2, d3] }
  | _ => none }
def canonRootedRow : OpenClaim := { program := "yteeihjpnhjnknaa", sum := "8f4d0246cd8bc3b7b4446a200187c867749a61ebed8eca08e480401db125012c", func := "tangram/tangramlaw21.CanonRooted", spec := "canonRooted", unfollowed := true, recurses := true, apart := false }
def CanonRootedSaid : Prop := canonRootedRow.holds Try.pinned (OpenSpec.ofChange canonRootedSpec)

/-- ITS FALSE NEIGHBOUR: 'it returns false'. Refute it at one input. -/
def canonRootedWrong : ChangeSpec := { name := "canonRooted", fn := fun _ => fun
  | [d1, d2, d3] => { results := [.lit (.bool false)], args := [d1, d2, d3] }
  | _ => none }
def CanonRootedWrongFalsely : Prop := canonRootedRow.holds Try.pinned (OpenSpec.ofChange canonRootedWrong)

/-- 'tangramlaw21.CanonCodes': WHATEVER THE INPUT: true; the input reads as it did. -/
def canonCodesSpec : ChangeSpec := { name := "canonCodes", fn := fun _ => fun
  | [d1, d2] => { results := [.lit (.bool true)], args := [d1, d2] }
  | _ => none }
def canonCodesRow : OpenClaim := { program := "yteeihjpnhjnknaa", sum := "8f4d0246cd8bc3b7b4446a200187c867749a61ebed8eca08e480401db125012c", func := "tangram/tangramlaw21.CanonCodes", spec := "canonCodes", unfollowed := true, recurses := true, apart := false }
def CanonCodesSaid : Prop := canonCodesRow.holds Try.pinned (OpenSpec.ofChange canonCodesSpec)

/-- ITS FALSE NEIGHBOUR: 'it returns false'. Refute it at one input. -/
def canonCodesWrong : ChangeSpec := { name := "canonCodes", fn := fun _ => fun
  | [d1, d2] => { results := [.lit (.bool false)], args := [d1, d2] }
  | _ => none }
def CanonCodesWrongFalsely : Prop := canonCodesRow.holds Try.pinned (OpenSpec.ofChange canonCodesWrong)

/-- 'tangramlaw21.CanonMatches': WHATEVER THE INPUT: true; the input reads as it did. -/
def canonMatchesSpec : ChangeSpec := { name := "canonMatches", fn := fun _ => fun
  | [d1, d2] => { results := [.lit (.bool true)], args := [d1, d2] }
  | _ => none }
def canonMatchesRow : OpenClaim := { program := "yteeihjpnhjnknaa", sum := "8f4d0246cd8bc3b7b4446a200187c867749a61ebed8eca08e480401db125012c", func := "tangram/tangramlaw21.CanonMatches", spec := "canonMatches", unfollowed := true, recurses := true, apart := false }
def CanonMatchesSaid : Prop := canonMatchesRow.holds Try.pinned (OpenSpec.ofChange canonMatchesSpec)

/-- ITS FALSE NEIGHBOUR: 'it returns false'. Refute it at one input. -/
def canonMatchesWrong : ChangeSpec := { name := "canonMatches", fn := fun _ => fun
  | [d1, d2] => { results := [.lit (.bool false)], args := [d1, d2] }
  | _ => none }
def CanonMatchesWrongFalsely : Prop := canonMatchesRow.holds Try.pinned (OpenSpec.ofChange canonMatchesWrong)

/-- 'tangramlaw21.CanonLeast': WHATEVER THE INPUT: true; the input reads as it did. -/
def canonLeastSpec : ChangeSpec := { name := "canonLeast", fn := fun _ => fun
  | [d1, d2] => { results := [.lit (.bool true)], args := [d1, d2] }
  | _ => none }
def canonLeastRow : OpenClaim := { program := "yteeihjpnhjnknaa", sum := "8f4d0246cd8bc3b7b4446a200187c867749a61ebed8eca08e480401db125012c", func := "tangram/tangramlaw21.CanonLeast", spec := "canonLeast", unfollowed := true, recurses := true, apart := false }
def CanonLeastSaid : Prop := canonLeastRow.holds Try.pinned (OpenSpec.ofChange canonLeastSpec)

/-- ITS FALSE NEIGHBOUR: 'it returns false'. Refute it at one input. -/
def canonLeastWrong : ChangeSpec := { name := "canonLeast", fn := fun _ => fun
  | [d1, d2] => { results := [.lit (.bool false)], args := [d1, d2] }
  | _ => none }
def CanonLeastWrongFalsely : Prop := canonLeastRow.holds Try.pinned (OpenSpec.ofChange canonLeastWrong)

/-- 'tangramlaw21.CanonAgain': WHATEVER THE INPUT: true; the input reads as it did. -/
def canonAgainSpec : ChangeSpec := { name := "canonAgain", fn := fun _ => fun
  | [d1, d2, d3] => { results := [.lit (.bool true)], args := [d1, d2, d3] }
  | _ => none }
def canonAgainRow : OpenClaim := { program := "yteeihjpnhjnknaa", sum := "8f4d0246cd8bc3b7b4446a200187c867749a61ebed8eca08e480401db125012c", func := "tangram/tangramlaw21.CanonAgain", spec := "canonAgain", unfollowed := true, recurses := true, apart := false }
def CanonAgainSaid : Prop := canonAgainRow.holds Try.pinned (OpenSpec.ofChange canonAgainSpec)

/-- ITS FALSE NEIGHBOUR: 'it returns false'. Refute it at one input. -/
def canonAgainWrong : ChangeSpec := { name := "canonAgain", fn := fun _ => fun
  | [d1, d2, d3] => { results := [.lit (.bool false)], args := [d1, d2, d3] }
  | _ => none }
def CanonAgainWrongFalsely : Prop := canonAgainRow.holds Try.pinned (OpenSpec.ofChange canonAgainWrong)

/-- 'tangramlaw21.CanonNames': WHATEVER THE INPUT: true; the input reads as it did. -/
def canonNamesSpec : ChangeSpec := { name := "canonNames", fn := fun _ => fun
  | [d1, d2, d3] => { results := [.lit (.bool true)], args := [d1, d2, d3] }
  | _ => none }
def canonNamesRow : OpenClaim := { program := "yteeihjpnhjnknaa", sum := "8f4d0246cd8bc3b7b4446a200187c867749a61ebed8eca08e480401db125012c", func := "tangram/tangramlaw21.CanonNames", spec := "canonNames", unfollowed := true, recurses := true, apart := false }
def CanonNamesSaid : Prop := canonNamesRow.holds Try.pinned (OpenSpec.ofChange canonNamesSpec)

/-- ITS FALSE NEIGHBOUR: 'it returns false'. Refute it at one input. -/
def canonNamesWrong : ChangeSpec := { name := "canonNames", fn := fun _ => fun
  | [d1, d2, d3] => { results := [.lit (.bool false)], args := [d1, d2, d3] }
  | _ => none }
def CanonNamesWrongFalsely : Prop := canonNamesRow.holds Try.pinned (OpenSpec.ofChange canonNamesWrong)

/-- 'tangramlaw21.CanonOwn': WHATEVER THE INPUT: true; the input reads as it did. -/
def canonOwnSpec : ChangeSpec := { name := "canonOwn", fn := fun _ => fun
  | [d1, d2, d3] => { results := [.lit (.bool true)], args := [d1, d2, d3] }
  | _ => none }
def canonOwnRow : OpenClaim := { program := "yteeihjpnhjnknaa", sum := "8f4d0246cd8bc3b7b4446a200187c867749a61ebed8eca08e480401db125012c", func := "tangram/tangramlaw21.CanonOwn", spec := "canonOwn", unfollowed := true, recurses := true, apart := false }
def CanonOwnSaid : Prop := canonOwnRow.holds Try.pinned (OpenSpec.ofChange canonOwnSpec)

/-- ITS FALSE NEIGHBOUR: 'it returns false'. Refute it at one input. -/
def canonOwnWrong : ChangeSpec := { name := "canonOwn", fn := fun _ => fun
  | [d1, d2, d3] => { results := [.lit (.bool false)], args := [d1, d2, d3] }
  | _ => none }
def CanonOwnWrongFalsely : Prop := canonOwnRow.holds Try.pinned (OpenSpec.ofChange canonOwnWrong)

/-- 'tangramlaw21.CanonMirror': WHATEVER THE INPUT: true; the input reads as it did. -/
def canonMirrorSpec : ChangeSpec := { name := "canonMirror", fn := fun _ => fun
  | [d1, d2] => { results := [.lit (.bool true)], args := [d1, d2] }
  | _ => none }
def canonMirrorRow : OpenClaim := { program := "yteeihjpnhjnknaa", sum := "8f4d0246cd8bc3b7b4446a200187c867749a61ebed8eca08e480401db125012c", func := "tangram/tangramlaw21.CanonMirror", spec := "canonMirror", unfollowed := true, recurses := true, apart := false }
def CanonMirrorSaid : Prop := canonMirrorRow.holds Try.pinned (OpenSpec.ofChange canonMirrorSpec)

/-- ITS FALSE NEIGHBOUR: 'it returns false'. Refute it at one input. -/
def canonMirrorWrong : ChangeSpec := { name := "canonMirror", fn := fun _ => fun
  | [d1, d2] => { results := [.lit (.bool false)], args := [d1, d2] }
  | _ => none }
def CanonMirrorWrongFalsely : Prop := canonMirrorRow.holds Try.pinned (OpenSpec.ofChange canonMirrorWrong)

/- THE SECOND FORM. 'bulk': how many values and letters a reading holds, each counted each time it is reached (what is shared counts as often as it is met; a slice's spare places count too). A statement '..UptoSaid' is the law's where the arguments, and the package variables that the reading takes, are together of bulk at most 1048576: NARROWER than '..Said'. Prove '..Said' where nothing that the law and all that it calls make is longer than what came in: it says more and counts as full. Else prove '..UptoSaid'. A law counts once. -/
mutual
def uptoBulk {H : Type} : DataW H → Nat
  | .lit (.string bytes) => bytes.length + 1
  | .lit _ => 1
  | .nil => 1
  | .ptr d => uptoBulk d + 1
  | .slice elems spare => uptoBulkAll elems + uptoBulkAll spare + 1
  | .agg parts => uptoBulkAll parts + 1
  | .iface _ d => uptoBulk d + 1
  | .map entries => uptoBulkEntries entries + 1
  | .held _ => 1
def uptoBulkAll {H : Type} : List (DataW H) → Nat
  | [] => 0
  | d :: r => uptoBulk d + uptoBulkAll r
def uptoBulkEntries {H : Type} : List (Lit × DataW H) → Nat
  | [] => 0
  | x :: r => uptoBulkEntry x + uptoBulkEntries r
def uptoBulkEntry {H : Type} : Lit × DataW H → Nat
  | (.string bytes, d) => bytes.length + uptoBulk d + 1
  | (_, d) => uptoBulk d + 1
 end
def uptoSmall : (H : Type) → List (DataW H) → Bool := fun _ ds => decide (uptoBulkAll ds ≤ 1048576)
def OpenSpec.upto (s : _root_.Go.ChangeSpec) : _root_.Go.OpenSpec := { _root_.Go.OpenSpec.ofChange s with cond := some uptoSmall }

/-- 'tangramlaw21.CanonRooted', WHERE WHAT IT READS IS OF BULK AT MOST 1048576: true; the input reads as it did. -/
def canonRootedUptoRow : OpenClaim := { program := "yteeihjpnhjnknaa", sum := "8f4d0246cd8bc3b7b4446a200187c867749a61ebed8eca08e480401db125012c", func := "tangram/tangramlaw21.CanonRooted", spec := "canonRooted", unfollowed := true, recurses := true, apart := false, narrowed := true }
def CanonRootedUptoSaid : Prop := canonRootedUptoRow.holds Try.pinned (OpenSpec.upto canonRootedSpec)

/-- 'tangramlaw21.CanonCodes', WHERE WHAT IT READS IS OF BULK AT MOST 1048576: true; the input reads as it did. -/
def canonCodesUptoRow : OpenClaim := { program := "yteeihjpnhjnknaa", sum := "8f4d0246cd8bc3b7b4446a200187c867749a61ebed8eca08e480401db125012c", func := "tangram/tangramlaw21.CanonCodes", spec := "canonCodes", unfollowed := true, recurses := true, apart := false, narrowed := true }
def CanonCodesUptoSaid : Prop := canonCodesUptoRow.holds Try.pinned (OpenSpec.upto canonCodesSpec)

/-- 'tangramlaw21.CanonMatches', WHERE WHAT IT READS IS OF BULK AT MOST 1048576: true; the input reads as it did. -/
def canonMatchesUptoRow : OpenClaim := { program := "yteeihjpnhjnknaa", sum := "8f4d0246cd8bc3b7b4446a200187c867749a61ebed8eca08e480401db125012c", func := "tangram/tangramlaw21.CanonMatches", spec := "canonMatches", unfollowed := true, recurses := true, apart := false, narrowed := true }
def CanonMatchesUptoSaid : Prop := canonMatchesUptoRow.holds Try.pinned (OpenSpec.upto canonMatchesSpec)

/-- 'tangramlaw21.CanonLeast', WHERE WHAT IT READS IS OF BULK AT MOST 1048576: true; the input reads as it did. -/
def canonLeastUptoRow : OpenClaim := { program := "yteeihjpnhjnknaa", sum := "8f4d0246cd8bc3b7b4446a200187c867749a61ebed8eca08e480401db125012c", func := "tangram/tangramlaw21.CanonLeast", spec := "canonLeast", unfollowed := true, recurses := true, apart := false, narrowed := true }
def CanonLeastUptoSaid : Prop := canonLeastUptoRow.holds Try.pinned (OpenSpec.upto canonLeastSpec)

/-- 'tangramlaw21.CanonAgain', WHERE WHAT IT READS IS OF BULK AT MOST 1048576: true; the input reads as it did. -/
def canonAgainUptoRow : OpenClaim := { program := "yteeihjpnhjnknaa", sum := "8f4d0246cd8bc3b7b4446a200187c867749a61ebed8eca08e480401db125012c", func := "tangram/tangramlaw21.CanonAgain", spec := "canonAgain", unfollowed := true, recurses := true, apart := false, narrowed := true }
def CanonAgainUptoSaid : Prop := canonAgainUptoRow.holds Try.pinned (OpenSpec.upto canonAgainSpec)

/-- 'tangramlaw21.CanonNames', WHERE WHAT IT READS IS OF BULK AT MOST 1048576: true; the input reads as it did. -/
def canonNamesUptoRow : OpenClaim := { program := "yteeihjpnhjnknaa", sum := "8f4d0246cd8bc3b7b4446a200187c867749a61ebed8eca08e480401db125012c", func := "tangram/tangramlaw21.CanonNames", spec := "canonNames", unfollowed := true, recurses := true, apart := false, narrowed := true }
def CanonNamesUptoSaid : Prop := canonNamesUptoRow.holds Try.pinned (OpenSpec.upto canonNamesSpec)

/-- 'tangramlaw21.CanonOwn', WHERE WHAT IT READS IS OF BULK AT MOST 1048576: true; the input reads as it did. -/
def canonOwnUptoRow : OpenClaim := { program := "yteeihjpnhjnknaa", sum := "8f4d0246cd8bc3b7b4446a200187c867749a61ebed8eca08e480401db125012c", func := "tangram/tangramlaw21.CanonOwn", spec := "canonOwn", unfollowed := true, recurses := true, apart := false, narrowed := true }
def CanonOwnUptoSaid : Prop := canonOwnUptoRow.holds Try.pinned (OpenSpec.upto canonOwnSpec)

/-- 'tangramlaw21.CanonMirror', WHERE WHAT IT READS IS OF BULK AT MOST 1048576: true; the input reads as it did. -/
def canonMirrorUptoRow : OpenClaim := { program := "yteeihjpnhjnknaa", sum := "8f4d0246cd8bc3b7b4446a200187c867749a61ebed8eca08e480401db125012c", func := "tangram/tangramlaw21.CanonMirror", spec := "canonMirror", unfollowed := true, recurses := true, apart := false, narrowed := true }
def CanonMirrorUptoSaid : Prop := canonMirrorUptoRow.holds Try.pinned (OpenSpec.upto canonMirrorSpec)

end Rows
end Go.Proofs.Yteeihjpnhjnknaa
