/-
  No cell of these rows narrows 'for every input' (looked for: loops, veiled, ifaces, maps, wideKeys, modest, calm, conditions, laid).
  DERIVED. THE GIVEN ROWS OF THIS SEAT. 8 by the template 'for every input the law returns true; each argument reads behind the call as it read before'; 0 by the template 'total and deterministic' (their statements: YtkkhhbegeboonaaTotals.lean).
  GIVEN WITH THE SEED: the statements are not yours to turn. If you find one false, say at which input.
  Laid BY PROGRAM, IN A SANDBOX (cutbox-rows.mjs): the forced cells as the released guide's own fill.sh prints them over the translation 7d7710a4b898cf5e… (all of the seat's roots in one cut). By AI agents, Wed Nov 11 2026. No macro, syntax, notation, axiom, sorry.
-/
import Derived.Test.YtkkhhbegeboonaaChecked
import GoSem.Claim
import GoSem.ClaimJoined
import GoSem.ClaimMapViews
import Derived.JoinedTies
import Derived.KernelRfl
namespace Go.Proofs.Ytkkhhbegeboonaa
/- THE CELL 'sum', in the pinned program and in every row, IS THE sha256 OF THE DUMP (.gsa) THAT YtkkhhbegeboonaaProg.lean LOADS. Nothing in Lean hashes anything: it is a label: what it is worth is what the hold of that sum in a sandbox is worth. -/
noncomputable def Try.pinned : Pinned := { name := "ytkkhhbegeboonaa", sum := "7d7710a4b898cf5e9f7d67d7d717cb2d2a0644af7d76aa97faf204ca82c363be", checked := Try.checked }
namespace Rows
def none {H : Type} : Left H := { results := [], args := [] }

/-- 'tangramlaw11.RotNext': WHATEVER THE INPUT: true; the input reads as it did. -/
def rotNextSpec : ChangeSpec := { name := "rotNext", fn := fun _ => fun
  | [d1, d2] => { results := [.lit (.bool true)], args := [d1, d2] }
  | _ => none }
def rotNextRow : OpenClaim := { program := "ytkkhhbegeboonaa", sum := "7d7710a4b898cf5e9f7d67d7d717cb2d2a0644af7d76aa97faf204ca82c363be", func := "tangram/tangramlaw11.RotNext", spec := "rotNext", unfollowed := true, recurses := true, plainKeys := false, apart := false }
def RotNextSaid : Prop := rotNextRow.holds Try.pinned (OpenSpec.ofChange rotNextSpec)

/-- ITS FALSE NEIGHBOUR: 'it returns false'. Refute it at one input. -/
def rotNextWrong : ChangeSpec := { name := "rotNext", fn := fun _ => fun
  | [d1, d2] => { results := [.lit (.bool false)], args := [d1, d2] }
  | _ => none }
def RotNextWrongFalsely : Prop := rotNextRow.holds Try.pinned (OpenSpec.ofChange rotNextWrong)

/-- 'tangramlaw11.RotChecks': WHATEVER THE INPUT: true; the input reads as it did. -/
def rotChecksSpec : ChangeSpec := { name := "rotChecks", fn := fun _ => fun
  | [d1, d2] => { results := [.lit (.bool true)], args := [d1, d2] }
  | _ => none }
def rotChecksRow : OpenClaim := { program := "ytkkhhbegeboonaa", sum := "7d7710a4b898cf5e9f7d67d7d717cb2d2a0644af7d76aa97faf204ca82c363be", func := "tangram/tangramlaw11.RotChecks", spec := "rotChecks", unfollowed := true, recurses := true, plainKeys := false, apart := false }
def RotChecksSaid : Prop := rotChecksRow.holds Try.pinned (OpenSpec.ofChange rotChecksSpec)

/-- ITS FALSE NEIGHBOUR: 'it returns false'. Refute it at one input. -/
def rotChecksWrong : ChangeSpec := { name := "rotChecks", fn := fun _ => fun
  | [d1, d2] => { results := [.lit (.bool false)], args := [d1, d2] }
  | _ => none }
def RotChecksWrongFalsely : Prop := rotChecksRow.holds Try.pinned (OpenSpec.ofChange rotChecksWrong)

/-- 'tangramlaw11.RotFrom': WHATEVER THE INPUT: true; the input reads as it did. -/
def rotFromSpec : ChangeSpec := { name := "rotFrom", fn := fun _ => fun
  | [d1, d2] => { results := [.lit (.bool true)], args := [d1, d2] }
  | _ => none }
def rotFromRow : OpenClaim := { program := "ytkkhhbegeboonaa", sum := "7d7710a4b898cf5e9f7d67d7d717cb2d2a0644af7d76aa97faf204ca82c363be", func := "tangram/tangramlaw11.RotFrom", spec := "rotFrom", unfollowed := true, recurses := true, plainKeys := false, apart := false }
def RotFromSaid : Prop := rotFromRow.holds Try.pinned (OpenSpec.ofChange rotFromSpec)

/-- ITS FALSE NEIGHBOUR: 'it returns false'. Refute it at one input. -/
def rotFromWrong : ChangeSpec := { name := "rotFrom", fn := fun _ => fun
  | [d1, d2] => { results := [.lit (.bool false)], args := [d1, d2] }
  | _ => none }
def RotFromWrongFalsely : Prop := rotFromRow.holds Try.pinned (OpenSpec.ofChange rotFromWrong)

/-- 'tangramlaw11.RotBack': WHATEVER THE INPUT: true; the input reads as it did. -/
def rotBackSpec : ChangeSpec := { name := "rotBack", fn := fun _ => fun
  | [d1, d2, d3] => { results := [.lit (.bool true)], args := [d1, d2, d3] }
  | _ => none }
def rotBackRow : OpenClaim := { program := "ytkkhhbegeboonaa", sum := "7d7710a4b898cf5e9f7d67d7d717cb2d2a0644af7d76aa97faf204ca82c363be", func := "tangram/tangramlaw11.RotBack", spec := "rotBack", unfollowed := true, recurses := true, plainKeys := false, apart := false }
def RotBackSaid : Prop := rotBackRow.holds Try.pinned (OpenSpec.ofChange rotBackSpec)

/-- ITS FALSE NEIGHBOUR: 'it returns false'. Refute it at one input. -/
def rotBackWrong : ChangeSpec := { name := "rotBack", fn := fun _ => fun
  | [d1, d2, d3] => { results := [.lit (.bool false)], args := [d1, d2, d3] }
  | _ => none }
def RotBackWrongFalsely : Prop := rotBackRow.holds Try.pinned (OpenSpec.ofChange rotBackWrong)

/-- 'tangramlaw11.RotLists': WHATEVER THE INPUT: true; the input reads as it did. -/
def rotListsSpec : ChangeSpec := { name := "rotLists", fn := fun _ => fun
  | [d1, d2] => { results := [.lit (.bool true)], args := [d1, d2] }
  | _ => none }
def rotListsRow : OpenClaim := { program := "ytkkhhbegeboonaa", sum := "7d7710a4b898cf5e9f7d67d7d717cb2d2a0644af7d76aa97faf204ca82c363be", func := "tangram/tangramlaw11.RotLists", spec := "rotLists", unfollowed := true, recurses := true, plainKeys := false, apart := false }
def RotListsSaid : Prop := rotListsRow.holds Try.pinned (OpenSpec.ofChange rotListsSpec)

/-- ITS FALSE NEIGHBOUR: 'it returns false'. Refute it at one input. -/
def rotListsWrong : ChangeSpec := { name := "rotLists", fn := fun _ => fun
  | [d1, d2] => { results := [.lit (.bool false)], args := [d1, d2] }
  | _ => none }
def RotListsWrongFalsely : Prop := rotListsRow.holds Try.pinned (OpenSpec.ofChange rotListsWrong)

/-- 'tangramlaw11.RotCanon': WHATEVER THE INPUT: true; the input reads as it did. -/
def rotCanonSpec : ChangeSpec := { name := "rotCanon", fn := fun _ => fun
  | [d1, d2, d3] => { results := [.lit (.bool true)], args := [d1, d2, d3] }
  | _ => none }
def rotCanonRow : OpenClaim := { program := "ytkkhhbegeboonaa", sum := "7d7710a4b898cf5e9f7d67d7d717cb2d2a0644af7d76aa97faf204ca82c363be", func := "tangram/tangramlaw11.RotCanon", spec := "rotCanon", unfollowed := true, recurses := true, plainKeys := false, apart := false }
def RotCanonSaid : Prop := rotCanonRow.holds Try.pinned (OpenSpec.ofChange rotCanonSpec)

/-- ITS FALSE NEIGHBOUR: 'it returns false'. Refute it at one input. -/
def rotCanonWrong : ChangeSpec := { name := "rotCanon", fn := fun _ => fun
  | [d1, d2, d3] => { results := [.lit (.bool false)], args := [d1, d2, d3] }
  | _ => none }
def RotCanonWrongFalsely : Prop := rotCanonRow.holds Try.pinned (OpenSpec.ofChange rotCanonWrong)

/-- 'tangramlaw11.RotMemory': WHATEVER THE INPUT: true; the input reads as it did. -/
def rotMemorySpec : ChangeSpec := { name := "rotMemory", fn := fun _ => fun
  | [d1, d2] => { results := [.lit (.bool true)], args := [d1, d2] }
  | _ => none }
def rotMemoryRow : OpenClaim := { program := "ytkkhhbegeboonaa", sum := "7d7710a4b898cf5e9f7d67d7d717cb2d2a0644af7d76aa97faf204ca82c363be", func := "tangram/tangramlaw11.RotMemory", spec := "rotMemory", unfollowed := true, recurses := true, plainKeys := false, apart := false }
def RotMemorySaid : Prop := rotMemoryRow.holds Try.pinned (OpenSpec.ofChange rotMemorySpec)

/-- ITS FALSE NEIGHBOUR: 'it returns false'. Refute it at one input. -/
def rotMemoryWrong : ChangeSpec := { name := "rotMemory", fn := fun _ => fun
  | [d1, d2] => { results := [.lit (.bool false)], args := [d1, d2] }
  | _ => none }
def RotMemoryWrongFalsely : Prop := rotMemoryRow.holds Try.pinned (OpenSpec.ofChange rotMemoryWrong)

/-- 'tangramlaw11.RotNames': WHATEVER THE INPUT: true; the input reads as it did. -/
def rotNamesSpec : ChangeSpec := { name := "rotNames", fn := fun _ => fun
  | [] => { results := [.lit (.bool true)], args := [] }
  | _ => none }
def rotNamesRow : OpenClaim := { program := "ytkkhhbegeboonaa", sum := "7d7710a4b898cf5e9f7d67d7d717cb2d2a0644af7d76aa97faf204ca82c363be", func := "tangram/tangramlaw11.RotNames", spec := "rotNames", unfollowed := true, recurses := true, plainKeys := false, apart := false }
def RotNamesSaid : Prop := rotNamesRow.holds Try.pinned (OpenSpec.ofChange rotNamesSpec)

/-- ITS FALSE NEIGHBOUR: 'it returns false'. Refute it at one input. -/
def rotNamesWrong : ChangeSpec := { name := "rotNames", fn := fun _ => fun
  | [] => { results := [.lit (.bool false)], args := [] }
  | _ => none }
def RotNamesWrongFalsely : Prop := rotNamesRow.holds Try.pinned (OpenSpec.ofChange rotNamesWrong)

/- THE SECOND FORM. 'bulk': how many values and letters a reading holds, each counted each time it is reached (what is shared counts as often as it is met; a slice's spare places count too). A statement '..UptoSaid' is the law's where the arguments, and the package variables that the reading takes, are together of bulk at most 1048576: NARROWER than '..Said'. Prove '..Said' where nothing that the law and all that it calls make is longer than what came in: it says more and counts as full. Else prove '..UptoSaid'. A law counts once. -/
mutual
def uptoBulk {H : Type} : DataW H → Nat
  | .lit (.string bytes) => bytes.length + 1
  | .lit _ => 1
  | .nil => 1
  | .ptr d => uptoBulk d + 1
  | .slice elems spare => uptoBulkAll elems + uptoBulkAll spare + 1
  | .agg parts => uptoBulkAll parts + 1
  | .iface _ d => uptoBulk d + 1
  | .map entries => uptoBulkEntries entries + 1
  | .held _ => 1
def uptoBulkAll {H : Type} : List (DataW H) → Nat
  | [] => 0
  | d :: r => uptoBulk d + uptoBulkAll r
def uptoBulkEntries {H : Type} : List (Lit × DataW H) → Nat
  | [] => 0
  | x :: r => uptoBulkEntry x + uptoBulkEntries r
def uptoBulkEntry {H : Type} : Lit × DataW H → Nat
  | (.string bytes, d) => bytes.length + uptoBulk d + 1
  | (_, d) => uptoBulk d + 1
 end
def uptoSmall : (H : Type) → List (DataW H) → Bool := fun _ ds => decide (uptoBulkAll ds ≤ 1048576)
def OpenSpec.upto (s : _root_.Go.ChangeSpec) : _root_.Go.OpenSpec := { _root_.Go.OpenSpec.ofChange s with cond := some uptoSmall }

/-- 'tangramlaw11.RotNext', WHERE WHAT IT READS IS OF BULK AT MOST 1048576: true; the input reads as it did. -/
def rotNextUptoRow : OpenClaim := { program := "ytkkhhbegeboonaa", sum := "7d7710a4b898cf5e9f7d67d7d717cb2d2a0644af7d76aa97faf204ca82c363be", func := "tangram/tangramlaw11.RotNext", spec := "rotNext", unfollowed := true, recurses := true, plainKeys := false, apart := false, narrowed := true }
def RotNextUptoSaid : Prop := rotNextUptoRow.holds Try.pinned (OpenSpec.upto rotNextSpec)

/-- 'tangramlaw11.RotChecks', WHERE WHAT IT READS IS OF BULK AT MOST 1048576: true; the input reads as it did. -/
def rotChecksUptoRow : OpenClaim := { program := "ytkkhhbegeboonaa", sum := "7d7710a4b898cf5e9f7d67d7d717cb2d2a0644af7d76aa97faf204ca82c363be", func := "tangram/tangramlaw11.RotChecks", spec := "rotChecks", unfollowed := true, recurses := true, plainKeys := false, apart := false, narrowed := true }
def RotChecksUptoSaid : Prop := rotChecksUptoRow.holds Try.pinned (OpenSpec.upto rotChecksSpec)

/-- 'tangramlaw11.RotFrom', WHERE WHAT IT READS IS OF BULK AT MOST 1048576: true; the input reads as it did. -/
def rotFromUptoRow : OpenClaim := { program := "ytkkhhbegeboonaa", sum := "7d7710a4b898cf5e9f7d67d7d717cb2d2a0644af7d76aa97faf204ca82c363be", func := "tangram/tangramlaw11.RotFrom", spec := "rotFrom", unfollowed := true, recurses := true, plainKeys := false, apart := false, narrowed := true }
def RotFromUptoSaid : Prop := rotFromUptoRow.holds Try.pinned (OpenSpec.upto rotFromSpec)

/-- 'tangramlaw11.RotBack', WHERE WHAT IT READS IS OF BULK AT MOST 1048576: true; the input reads as it did. -/
def rotBackUptoRow : OpenClaim := { program := "ytkkhhbegeboonaa", sum := "7d7710a4b898cf5e9f7d67d7d717cb2d2a0644af7d76aa97faf204ca82c363be", func := "tangram/tangramlaw11.RotBack", spec := "rotBack", unfollowed := true, recurses := true, plainKeys := false, apart := false, narrowed := true }
def RotBackUptoSaid : Prop := rotBackUptoRow.holds Try.pinned (OpenSpec.upto rotBackSpec)

/-- 'tangramlaw11.RotLists', WHERE WHAT IT READS IS OF BULK AT MOST 1048576: true; the input reads as it did. -/
def rotListsUptoRow : OpenClaim := { program := "ytkkhhbegeboonaa", sum := "7d7710a4b898cf5e9f7d67d7d717cb2d2a0644af7d76aa97faf204ca82c363be", func := "tangram/tangramlaw11.RotLists", spec := "rotLists", unfollowed := true, recurses := true, plainKeys := false, apart := false, narrowed := true }
def RotListsUptoSaid : Prop := rotListsUptoRow.holds Try.pinned (OpenSpec.upto rotListsSpec)

/-- 'tangramlaw11.RotCanon', WHERE WHAT IT READS IS OF BULK AT MOST 1048576: true; the input reads as it did. -/
def rotCanonUptoRow : OpenClaim := { program := "ytkkhhbegeboonaa", sum := "7d7710a4b898cf5e9f7d67d7d717cb2d2a0644af7d76aa97faf204ca82c363be", func := "tangram/tangramlaw11.RotCanon", spec := "rotCanon", unfollowed := true, recurses := true, plainKeys := false, apart := false, narrowed := true }
def RotCanonUptoSaid : Prop := rotCanonUptoRow.holds Try.pinned (OpenSpec.upto rotCanonSpec)

/-- 'tangramlaw11.RotMemory', WHERE WHAT IT READS IS OF BULK AT MOST 1048576: true; the input reads as it did. -/
def rotMemoryUptoRow : OpenClaim := { program := "ytkkhhbegeboonaa", sum := "7d7710a4b898cf5e9f7d67d7d717cb2d2a0644af7d76aa97faf204ca82c363be", func := "tangram/tangramlaw11.RotMemory", spec := "rotMemory", unfollowed := true, recurses := true, plainKeys := false, apart := false, narrowed := true }
def RotMemoryUptoSaid : Prop := rotMemoryUptoRow.holds Try.pinned (OpenSpec.upto rotMemorySpec)

/-- 'tangramlaw11.RotNames', WHERE WHAT IT READS IS OF BULK AT MOST 1048576: true; the input reads as it did. -/
def rotNamesUptoRow : OpenClaim := { program := "ytkkhhbegeboonaa", sum := "7d7710a4b898cf5e9f7d67d7d717cb2d2a0644af7d76aa97faf204ca82c363be", func := "tangram/tangramlaw11.RotNames", spec := "rotNames", unfollowed := true, recurses := true, plainKeys := false, apart := false, narrowed := true }
def RotNamesUptoSaid : Prop := rotNamesUptoRow.holds Try.pinned (OpenSpec.upto rotNamesSpec)

end Rows
end Go.Proofs.Ytkkhhbegeboonaa
