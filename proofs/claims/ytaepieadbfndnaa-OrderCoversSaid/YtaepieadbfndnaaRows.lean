/-
  No cell of these rows narrows 'for every input' (looked for: loops, veiled, ifaces, maps, wideKeys, modest, calm, conditions, laid).
  DERIVED. THE GIVEN ROWS OF THIS SEAT. 6 by the template 'for every input the law returns true; each argument reads behind the call as it read before'; 0 by the template 'total and deterministic' (their statements: YtaepieadbfndnaaTotals.lean).
  GIVEN WITH THE SEED: the statements are not yours to turn. If you find one false, say at which input.
  Laid BY PROGRAM, IN A SANDBOX (cutbox-rows.mjs): the forced cells as the released guide's own fill.sh prints them over the translation 5fa20e6784bcbfb2… (all of the seat's roots in one cut). By AI agents, Wed Nov 11 2026. No macro, syntax, notation, axiom, sorry.
-/
import Derived.Test.YtaepieadbfndnaaChecked
import GoSem.Claim
import GoSem.ClaimJoined
import GoSem.ClaimMapViews
import Derived.JoinedTies
import Derived.KernelRfl
namespace Go.Proofs.Ytaepieadbfndnaa
/- THE CELL 'sum', in the pinned program and in every row, IS THE sha256 OF THE DUMP (.gsa) THAT YtaepieadbfndnaaProg.lean LOADS. Nothing in Lean hashes anything: it is a label: what it is worth is what the hold of that sum in a sandbox is worth. -/
noncomputable def Try.pinned : Pinned := { name := "ytaepieadbfndnaa", sum := "5fa20e6784bcbfb2e39dddd6ec3e34ea3fa33644c8f7722dd179881a84539f5e", checked := Try.checked }
namespace Rows
def none {H : Type} : Left H := { results := [], args := [] }

/-- 'tangramlaw24.OrderFeet': WHATEVER THE INPUT: true; the input reads as it did. -/
def orderFeetSpec : ChangeSpec := { name := "orderFeet", fn := fun _ => fun
  | [d] => { results := [.lit (.bool true)], args := [d] }
  | _ => none }
def orderFeetRow : OpenClaim := { program := "ytaepieadbfndnaa", sum := "5fa20e6784bcbfb2e39dddd6ec3e34ea3fa33644c8f7722dd179881a84539f5e", func := "tangram/tangramlaw24.OrderFeet", spec := "orderFeet", unfollowed := true, recurses := true, apart := false }
def OrderFeetSaid : Prop := orderFeetRow.holds Try.pinned (OpenSpec.ofChange orderFeetSpec)

/-- ITS FALSE NEIGHBOUR: 'it returns false'. Refute it at one input. -/
def orderFeetWrong : ChangeSpec := { name := "orderFeet", fn := fun _ => fun
  | [d] => { results := [.lit (.bool false)], args := [d] }
  | _ => none }
def OrderFeetWrongFalsely : Prop := orderFeetRow.holds Try.pinned (OpenSpec.ofChange orderFeetWrong)

/-- 'tangramlaw24.OrderOwn': WHATEVER THE INPUT: true; the input reads as it did. -/
def orderOwnSpec : ChangeSpec := { name := "orderOwn", fn := fun _ => fun
  | [d] => { results := [.lit (.bool true)], args := [d] }
  | _ => none }
def orderOwnRow : OpenClaim := { program := "ytaepieadbfndnaa", sum := "5fa20e6784bcbfb2e39dddd6ec3e34ea3fa33644c8f7722dd179881a84539f5e", func := "tangram/tangramlaw24.OrderOwn", spec := "orderOwn", unfollowed := true, recurses := true, apart := false }
def OrderOwnSaid : Prop := orderOwnRow.holds Try.pinned (OpenSpec.ofChange orderOwnSpec)

/-- ITS FALSE NEIGHBOUR: 'it returns false'. Refute it at one input. -/
def orderOwnWrong : ChangeSpec := { name := "orderOwn", fn := fun _ => fun
  | [d] => { results := [.lit (.bool false)], args := [d] }
  | _ => none }
def OrderOwnWrongFalsely : Prop := orderOwnRow.holds Try.pinned (OpenSpec.ofChange orderOwnWrong)

/-- 'tangramlaw24.OrderValid': WHATEVER THE INPUT: true; the input reads as it did. -/
def orderValidSpec : ChangeSpec := { name := "orderValid", fn := fun _ => fun
  | [d] => { results := [.lit (.bool true)], args := [d] }
  | _ => none }
def orderValidRow : OpenClaim := { program := "ytaepieadbfndnaa", sum := "5fa20e6784bcbfb2e39dddd6ec3e34ea3fa33644c8f7722dd179881a84539f5e", func := "tangram/tangramlaw24.OrderValid", spec := "orderValid", unfollowed := true, recurses := true, apart := false }
def OrderValidSaid : Prop := orderValidRow.holds Try.pinned (OpenSpec.ofChange orderValidSpec)

/-- ITS FALSE NEIGHBOUR: 'it returns false'. Refute it at one input. -/
def orderValidWrong : ChangeSpec := { name := "orderValid", fn := fun _ => fun
  | [d] => { results := [.lit (.bool false)], args := [d] }
  | _ => none }
def OrderValidWrongFalsely : Prop := orderValidRow.holds Try.pinned (OpenSpec.ofChange orderValidWrong)

/-- 'tangramlaw24.OrderCovers': WHATEVER THE INPUT: true; the input reads as it did. -/
def orderCoversSpec : ChangeSpec := { name := "orderCovers", fn := fun _ => fun
  | [d] => { results := [.lit (.bool true)], args := [d] }
  | _ => none }
def orderCoversRow : OpenClaim := { program := "ytaepieadbfndnaa", sum := "5fa20e6784bcbfb2e39dddd6ec3e34ea3fa33644c8f7722dd179881a84539f5e", func := "tangram/tangramlaw24.OrderCovers", spec := "orderCovers", unfollowed := true, recurses := true, apart := false }
def OrderCoversSaid : Prop := orderCoversRow.holds Try.pinned (OpenSpec.ofChange orderCoversSpec)

/-- ITS FALSE NEIGHBOUR: 'it returns false'. Refute it at one input. -/
def orderCoversWrong : ChangeSpec := { name := "orderCovers", fn := fun _ => fun
  | [d] => { results := [.lit (.bool false)], args := [d] }
  | _ => none }
def OrderCoversWrongFalsely : Prop := orderCoversRow.holds Try.pinned (OpenSpec.ofChange orderCoversWrong)

/-- 'tangramlaw24.OrderOf': WHATEVER THE INPUT: true; the input reads as it did. -/
def orderOfSpec : ChangeSpec := { name := "orderOf", fn := fun _ => fun
  | [d] => { results := [.lit (.bool true)], args := [d] }
  | _ => none }
def orderOfRow : OpenClaim := { program := "ytaepieadbfndnaa", sum := "5fa20e6784bcbfb2e39dddd6ec3e34ea3fa33644c8f7722dd179881a84539f5e", func := "tangram/tangramlaw24.OrderOf", spec := "orderOf", unfollowed := true, recurses := true, apart := false }
def OrderOfSaid : Prop := orderOfRow.holds Try.pinned (OpenSpec.ofChange orderOfSpec)

/-- ITS FALSE NEIGHBOUR: 'it returns false'. Refute it at one input. -/
def orderOfWrong : ChangeSpec := { name := "orderOf", fn := fun _ => fun
  | [d] => { results := [.lit (.bool false)], args := [d] }
  | _ => none }
def OrderOfWrongFalsely : Prop := orderOfRow.holds Try.pinned (OpenSpec.ofChange orderOfWrong)

/-- 'tangramlaw24.OrderRoots': WHATEVER THE INPUT: true; the input reads as it did. -/
def orderRootsSpec : ChangeSpec := { name := "orderRoots", fn := fun _ => fun
  | [d] => { results := [.lit (.bool true)], args := [d] }
  | _ => none }
def orderRootsRow : OpenClaim := { program := "ytaepieadbfndnaa", sum := "5fa20e6784bcbfb2e39dddd6ec3e34ea3fa33644c8f7722dd179881a84539f5e", func := "tangram/tangramlaw24.OrderRoots", spec := "orderRoots", unfollowed := true, recurses := true, apart := false }
def OrderRootsSaid : Prop := orderRootsRow.holds Try.pinned (OpenSpec.ofChange orderRootsSpec)

/-- ITS FALSE NEIGHBOUR: 'it returns false'. Refute it at one input. -/
def orderRootsWrong : ChangeSpec := { name := "orderRoots", fn := fun _ => fun
  | [d] => { results := [.lit (.bool false)], args := [d] }
  | _ => none }
def OrderRootsWrongFalsely : Prop := orderRootsRow.holds Try.pinned (OpenSpec.ofChange orderRootsWrong)

/- THE SECOND FORM. 'bulk': how many values and letters a reading holds, each counted each time it is reached (what is shared counts as often as it is met; a slice's spare places count too). A statement '..UptoSaid' is the law's where the arguments, and the package variables that the reading takes, are together of bulk at most 1048576: NARROWER than '..Said'. Prove '..Said' where nothing that the law and all that it calls make is longer than what came in: it says more and counts as full. Else prove '..UptoSaid'. A law counts once. -/
mutual
def uptoBulk {H : Type} : DataW H → Nat
  | .lit (.string bytes) => bytes.length + 1
  | .lit _ => 1
  | .nil => 1
  | .ptr d => uptoBulk d + 1
  | .slice elems spare => uptoBulkAll elems + uptoBulkAll spare + 1
  | .agg parts => uptoBulkAll parts + 1
  | .iface _ d => uptoBulk d + 1
  | .map entries => uptoBulkEntries entries + 1
  | .held _ => 1
def uptoBulkAll {H : Type} : List (DataW H) → Nat
  | [] => 0
  | d :: r => uptoBulk d + uptoBulkAll r
def uptoBulkEntries {H : Type} : List (Lit × DataW H) → Nat
  | [] => 0
  | x :: r => uptoBulkEntry x + uptoBulkEntries r
def uptoBulkEntry {H : Type} : Lit × DataW H → Nat
  | (.string bytes, d) => bytes.length + uptoBulk d + 1
  | (_, d) => uptoBulk d + 1
 end
def uptoSmall : (H : Type) → List (DataW H) → Bool := fun _ ds => decide (uptoBulkAll ds ≤ 1048576)
def OpenSpec.upto (s : _root_.Go.ChangeSpec) : _root_.Go.OpenSpec := { _root_.Go.OpenSpec.ofChange s with cond := some uptoSmall }

/-- 'tangramlaw24.OrderFeet', WHERE WHAT IT READS IS OF BULK AT MOST 1048576: true; the input reads as it did. -/
def orderFeetUptoRow : OpenClaim := { program := "ytaepieadbfndnaa", sum := "5fa20e6784bcbfb2e39dddd6ec3e34ea3fa33644c8f7722dd179881a84539f5e", func := "tangram/tangramlaw24.OrderFeet", spec := "orderFeet", unfollowed := true, recurses := true, apart := false, narrowed := true }
def OrderFeetUptoSaid : Prop := orderFeetUptoRow.holds Try.pinned (OpenSpec.upto orderFeetSpec)

/-- 'tangramlaw24.OrderOwn', WHERE WHAT IT READS IS OF BULK AT MOST 1048576: true; the input reads as it did. -/
def orderOwnUptoRow : OpenClaim := { program := "ytaepieadbfndnaa", sum := "5fa20e6784bcbfb2e39dddd6ec3e34ea3fa33644c8f7722dd179881a84539f5e", func := "tangram/tangramlaw24.OrderOwn", spec := "orderOwn", unfollowed := true, recurses := true, apart := false, narrowed := true }
def OrderOwnUptoSaid : Prop := orderOwnUptoRow.holds Try.pinned (OpenSpec.upto orderOwnSpec)

/-- 'tangramlaw24.OrderValid', WHERE WHAT IT READS IS OF BULK AT MOST 1048576: true; the input reads as it did. -/
def orderValidUptoRow : OpenClaim := { program := "ytaepieadbfndnaa", sum := "5fa20e6784bcbfb2e39dddd6ec3e34ea3fa33644c8f7722dd179881a84539f5e", func := "tangram/tangramlaw24.OrderValid", spec := "orderValid", unfollowed := true, recurses := true, apart := false, narrowed := true }
def OrderValidUptoSaid : Prop := orderValidUptoRow.holds Try.pinned (OpenSpec.upto orderValidSpec)

/-- 'tangramlaw24.OrderCovers', WHERE WHAT IT READS IS OF BULK AT MOST 1048576: true; the input reads as it did. -/
def orderCoversUptoRow : OpenClaim := { program := "ytaepieadbfndnaa", sum := "5fa20e6784bcbfb2e39dddd6ec3e34ea3fa33644c8f7722dd179881a84539f5e", func := "tangram/tangramlaw24.OrderCovers", spec := "orderCovers", unfollowed := true, recurses := true, apart := false, narrowed := true }
def OrderCoversUptoSaid : Prop := orderCoversUptoRow.holds Try.pinned (OpenSpec.upto orderCoversSpec)

/-- 'tangramlaw24.OrderOf', WHERE WHAT IT READS IS OF BULK AT MOST 1048576: true; the input reads as it did. -/
def orderOfUptoRow : OpenClaim := { program := "ytaepieadbfndnaa", sum := "5fa20e6784bcbfb2e39dddd6ec3e34ea3fa33644c8f7722dd179881a84539f5e", func := "tangram/tangramlaw24.OrderOf", spec := "orderOf", unfollowed := true, recurses := true, apart := false, narrowed := true }
def OrderOfUptoSaid : Prop := orderOfUptoRow.holds Try.pinned (OpenSpec.upto orderOfSpec)

/-- 'tangramlaw24.OrderRoots', WHERE WHAT IT READS IS OF BULK AT MOST 1048576: true; the input reads as it did. -/
def orderRootsUptoRow : OpenClaim := { program := "ytaepieadbfndnaa", sum := "5fa20e6784bcbfb2e39dddd6ec3e34ea3fa33644c8f7722dd179881a84539f5e", func := "tangram/tangramlaw24.OrderRoots", spec := "orderRoots", unfollowed := true, recurses := true, apart := false, narrowed := true }
def OrderRootsUptoSaid : Prop := orderRootsUptoRow.holds Try.pinned (OpenSpec.upto orderRootsSpec)

end Rows
end Go.Proofs.Ytaepieadbfndnaa
