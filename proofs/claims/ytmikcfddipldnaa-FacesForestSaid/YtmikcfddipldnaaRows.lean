/-
  No cell of these rows narrows 'for every input' (looked for: loops, veiled, ifaces, maps, wideKeys, modest, calm, conditions, laid).
  DERIVED. THE GIVEN ROWS OF THIS SEAT. 6 by the template 'for every input the law returns true; each argument reads behind the call as it read before'; 0 by the template 'total and deterministic' (their statements: YtmikcfddipldnaaTotals.lean).
  GIVEN WITH THE SEED: the statements are not yours to turn. If you find one false, say at which input.
  Laid BY PROGRAM, IN A SANDBOX (cutbox-rows.mjs): the forced cells as the released guide's own fill.sh prints them over the translation 8db6732eaa2da432… (all of the seat's roots in one cut). By AI agents, Wed Nov 11 2026. No macro, syntax, notation, axiom, sorry.
-/
import Derived.Test.YtmikcfddipldnaaChecked
import GoSem.Claim
import GoSem.ClaimJoined
import GoSem.ClaimMapViews
import Derived.JoinedTies
import Derived.KernelRfl
namespace Go.Proofs.Ytmikcfddipldnaa
/- THE CELL 'sum', in the pinned program and in every row, IS THE sha256 OF THE DUMP (.gsa) THAT YtmikcfddipldnaaProg.lean LOADS. Nothing in Lean hashes anything: it is a label: what it is worth is what the hold of that sum in a sandbox is worth. -/
noncomputable def Try.pinned : Pinned := { name := "ytmikcfddipldnaa", sum := "8db6732eaa2da4324ee17b94b41d5b73fae4ceff76f6d15aaf52987ce5a99a37", checked := Try.checked }
namespace Rows
def none {H : Type} : Left H := { results := [], args := [] }

/-- 'tangramlaw12.FacesOf': WHATEVER THE INPUT: true; the input reads as it did. -/
def facesOfSpec : ChangeSpec := { name := "facesOf", fn := fun _ => fun
  | [d1, d2] => { results := [.lit (.bool true)], args := [d1, d2] }
  | _ => none }
def facesOfRow : OpenClaim := { program := "ytmikcfddipldnaa", sum := "8db6732eaa2da4324ee17b94b41d5b73fae4ceff76f6d15aaf52987ce5a99a37", func := "tangram/tangramlaw12.FacesOf", spec := "facesOf", unfollowed := true, recurses := true, apart := false }
def FacesOfSaid : Prop := facesOfRow.holds Try.pinned (OpenSpec.ofChange facesOfSpec)

/-- ITS FALSE NEIGHBOUR: 'it returns false'. Refute it at one input. -/
def facesOfWrong : ChangeSpec := { name := "facesOf", fn := fun _ => fun
  | [d1, d2] => { results := [.lit (.bool false)], args := [d1, d2] }
  | _ => none }
def FacesOfWrongFalsely : Prop := facesOfRow.holds Try.pinned (OpenSpec.ofChange facesOfWrong)

/-- 'tangramlaw12.FacesWalk': WHATEVER THE INPUT: true; the input reads as it did. -/
def facesWalkSpec : ChangeSpec := { name := "facesWalk", fn := fun _ => fun
  | [d1, d2] => { results := [.lit (.bool true)], args := [d1, d2] }
  | _ => none }
def facesWalkRow : OpenClaim := { program := "ytmikcfddipldnaa", sum := "8db6732eaa2da4324ee17b94b41d5b73fae4ceff76f6d15aaf52987ce5a99a37", func := "tangram/tangramlaw12.FacesWalk", spec := "facesWalk", unfollowed := true, recurses := true, apart := false }
def FacesWalkSaid : Prop := facesWalkRow.holds Try.pinned (OpenSpec.ofChange facesWalkSpec)

/-- ITS FALSE NEIGHBOUR: 'it returns false'. Refute it at one input. -/
def facesWalkWrong : ChangeSpec := { name := "facesWalk", fn := fun _ => fun
  | [d1, d2] => { results := [.lit (.bool false)], args := [d1, d2] }
  | _ => none }
def FacesWalkWrongFalsely : Prop := facesWalkRow.holds Try.pinned (OpenSpec.ofChange facesWalkWrong)

/-- 'tangramlaw12.FacesOwn': WHATEVER THE INPUT: true; the input reads as it did. -/
def facesOwnSpec : ChangeSpec := { name := "facesOwn", fn := fun _ => fun
  | [d1, d2] => { results := [.lit (.bool true)], args := [d1, d2] }
  | _ => none }
def facesOwnRow : OpenClaim := { program := "ytmikcfddipldnaa", sum := "8db6732eaa2da4324ee17b94b41d5b73fae4ceff76f6d15aaf52987ce5a99a37", func := "tangram/tangramlaw12.FacesOwn", spec := "facesOwn", unfollowed := true, recurses := true, apart := false }
def FacesOwnSaid : Prop := facesOwnRow.holds Try.pinned (OpenSpec.ofChange facesOwnSpec)

/-- ITS FALSE NEIGHBOUR: 'it returns false'. Refute it at one input. -/
def facesOwnWrong : ChangeSpec := { name := "facesOwn", fn := fun _ => fun
  | [d1, d2] => { results := [.lit (.bool false)], args := [d1, d2] }
  | _ => none }
def FacesOwnWrongFalsely : Prop := facesOwnRow.holds Try.pinned (OpenSpec.ofChange facesOwnWrong)

/-- 'tangramlaw12.FacesEuler': WHATEVER THE INPUT: true; the input reads as it did. -/
def facesEulerSpec : ChangeSpec := { name := "facesEuler", fn := fun _ => fun
  | [d1, d2] => { results := [.lit (.bool true)], args := [d1, d2] }
  | _ => none }
def facesEulerRow : OpenClaim := { program := "ytmikcfddipldnaa", sum := "8db6732eaa2da4324ee17b94b41d5b73fae4ceff76f6d15aaf52987ce5a99a37", func := "tangram/tangramlaw12.FacesEuler", spec := "facesEuler", unfollowed := true, recurses := true, apart := false }
def FacesEulerSaid : Prop := facesEulerRow.holds Try.pinned (OpenSpec.ofChange facesEulerSpec)

/-- ITS FALSE NEIGHBOUR: 'it returns false'. Refute it at one input. -/
def facesEulerWrong : ChangeSpec := { name := "facesEuler", fn := fun _ => fun
  | [d1, d2] => { results := [.lit (.bool false)], args := [d1, d2] }
  | _ => none }
def FacesEulerWrongFalsely : Prop := facesEulerRow.holds Try.pinned (OpenSpec.ofChange facesEulerWrong)

/-- 'tangramlaw12.FacesForest': WHATEVER THE INPUT: true; the input reads as it did. -/
def facesForestSpec : ChangeSpec := { name := "facesForest", fn := fun _ => fun
  | [d1, d2] => { results := [.lit (.bool true)], args := [d1, d2] }
  | _ => none }
def facesForestRow : OpenClaim := { program := "ytmikcfddipldnaa", sum := "8db6732eaa2da4324ee17b94b41d5b73fae4ceff76f6d15aaf52987ce5a99a37", func := "tangram/tangramlaw12.FacesForest", spec := "facesForest", unfollowed := true, recurses := true, apart := false }
def FacesForestSaid : Prop := facesForestRow.holds Try.pinned (OpenSpec.ofChange facesForestSpec)

/-- ITS FALSE NEIGHBOUR: 'it returns false'. Refute it at one input. -/
def facesForestWrong : ChangeSpec := { name := "facesForest", fn := fun _ => fun
  | [d1, d2] => { results := [.lit (.bool false)], args := [d1, d2] }
  | _ => none }
def FacesForestWrongFalsely : Prop := facesForestRow.holds Try.pinned (OpenSpec.ofChange facesForestWrong)

/-- 'tangramlaw12.FacesTurned': WHATEVER THE INPUT: true; the input reads as it did. -/
def facesTurnedSpec : ChangeSpec := { name := "facesTurned", fn := fun _ => fun
  | [d1, d2] => { results := [.lit (.bool true)], args := [d1, d2] }
  | _ => none }
def facesTurnedRow : OpenClaim := { program := "ytmikcfddipldnaa", sum := "8db6732eaa2da4324ee17b94b41d5b73fae4ceff76f6d15aaf52987ce5a99a37", func := "tangram/tangramlaw12.FacesTurned", spec := "facesTurned", unfollowed := true, recurses := true, apart := false }
def FacesTurnedSaid : Prop := facesTurnedRow.holds Try.pinned (OpenSpec.ofChange facesTurnedSpec)

/-- ITS FALSE NEIGHBOUR: 'it returns false'. Refute it at one input. -/
def facesTurnedWrong : ChangeSpec := { name := "facesTurned", fn := fun _ => fun
  | [d1, d2] => { results := [.lit (.bool false)], args := [d1, d2] }
  | _ => none }
def FacesTurnedWrongFalsely : Prop := facesTurnedRow.holds Try.pinned (OpenSpec.ofChange facesTurnedWrong)

/- THE SECOND FORM. 'bulk': how many values and letters a reading holds, each counted each time it is reached (what is shared counts as often as it is met; a slice's spare places count too). A statement '..UptoSaid' is the law's where the arguments, and the package variables that the reading takes, are together of bulk at most 1048576: NARROWER than '..Said'. Prove '..Said' where nothing that the law and all that it calls make is longer than what came in: it says more and counts as full. Else prove '..UptoSaid'. A law counts once. -/
mutual
def uptoBulk {H : Type} : DataW H → Nat
  | .lit (.string bytes) => bytes.length + 1
  | .lit _ => 1
  | .nil => 1
  | .ptr d => uptoBulk d + 1
  | .slice elems spare => uptoBulkAll elems + uptoBulkAll spare + 1
  | .agg parts => uptoBulkAll parts + 1
  | .iface _ d => uptoBulk d + 1
  | .map entries => uptoBulkEntries entries + 1
  | .held _ => 1
def uptoBulkAll {H : Type} : List (DataW H) → Nat
  | [] => 0
  | d :: r => uptoBulk d + uptoBulkAll r
def uptoBulkEntries {H : Type} : List (Lit × DataW H) → Nat
  | [] => 0
  | x :: r => uptoBulkEntry x + uptoBulkEntries r
def uptoBulkEntry {H : Type} : Lit × DataW H → Nat
  | (.string bytes, d) => bytes.length + uptoBulk d + 1
  | (_, d) => uptoBulk d + 1
 end
def uptoSmall : (H : Type) → List (DataW H) → Bool := fun _ ds => decide (uptoBulkAll ds ≤ 1048576)
def OpenSpec.upto (s : _root_.Go.ChangeSpec) : _root_.Go.OpenSpec := { _root_.Go.OpenSpec.ofChange s with cond := some uptoSmall }

/-- 'tangramlaw12.FacesOf', WHERE WHAT IT READS IS OF BULK AT MOST 1048576: true; the input reads as it did. -/
def facesOfUptoRow : OpenClaim := { program := "ytmikcfddipldnaa", sum := "8db6732eaa2da4324ee17b94b41d5b73fae4ceff76f6d15aaf52987ce5a99a37", func := "tangram/tangramlaw12.FacesOf", spec := "facesOf", unfollowed := true, recurses := true, apart := false, narrowed := true }
def FacesOfUptoSaid : Prop := facesOfUptoRow.holds Try.pinned (OpenSpec.upto facesOfSpec)

/-- 'tangramlaw12.FacesWalk', WHERE WHAT IT READS IS OF BULK AT MOST 1048576: true; the input reads as it did. -/
def facesWalkUptoRow : OpenClaim := { program := "ytmikcfddipldnaa", sum := "8db6732eaa2da4324ee17b94b41d5b73fae4ceff76f6d15aaf52987ce5a99a37", func := "tangram/tangramlaw12.FacesWalk", spec := "facesWalk", unfollowed := true, recurses := true, apart := false, narrowed := true }
def FacesWalkUptoSaid : Prop := facesWalkUptoRow.holds Try.pinned (OpenSpec.upto facesWalkSpec)

/-- 'tangramlaw12.FacesOwn', WHERE WHAT IT READS IS OF BULK AT MOST 1048576: true; the input reads as it did. -/
def facesOwnUptoRow : OpenClaim := { program := "ytmikcfddipldnaa", sum := "8db6732eaa2da4324ee17b94b41d5b73fae4ceff76f6d15aaf52987ce5a99a37", func := "tangram/tangramlaw12.FacesOwn", spec := "facesOwn", unfollowed := true, recurses := true, apart := false, narrowed := true }
def FacesOwnUptoSaid : Prop := facesOwnUptoRow.holds Try.pinned (OpenSpec.upto facesOwnSpec)

/-- 'tangramlaw12.FacesEuler', WHERE WHAT IT READS IS OF BULK AT MOST 1048576: true; the input reads as it did. -/
def facesEulerUptoRow : OpenClaim := { program := "ytmikcfddipldnaa", sum := "8db6732eaa2da4324ee17b94b41d5b73fae4ceff76f6d15aaf52987ce5a99a37", func := "tangram/tangramlaw12.FacesEuler", spec := "facesEuler", unfollowed := true, recurses := true, apart := false, narrowed := true }
def FacesEulerUptoSaid : Prop := facesEulerUptoRow.holds Try.pinned (OpenSpec.upto facesEulerSpec)

/-- 'tangramlaw12.FacesForest', WHERE WHAT IT READS IS OF BULK AT MOST 1048576: true; the input reads as it did. -/
def facesForestUptoRow : OpenClaim := { program := "ytmikcfddipldnaa", sum := "8db6732eaa2da4324ee17b94b41d5b73fae4ceff76f6d15aaf52987ce5a99a37", func := "tangram/tangramlaw12.FacesForest", spec := "facesForest", unfollowed := true, recurses := true, apart := false, narrowed := true }
def FacesForestUptoSaid : Prop := facesForestUptoRow.holds Try.pinned (OpenSpec.upto facesForestSpec)

/-- 'tangramlaw12.FacesTurned', WHERE WHAT IT READS IS OF BULK AT MOST 1048576: true; the input reads as it did. -/
def facesTurnedUptoRow : OpenClaim := { program := "ytmikcfddipldnaa", sum := "8db6732eaa2da4324ee17b94b41d5b73fae4ceff76f6d15aaf52987ce5a99a37", func := "tangram/tangramlaw12.FacesTurned", spec := "facesTurned", unfollowed := true, recurses := true, apart := false, narrowed := true }
def FacesTurnedUptoSaid : Prop := facesTurnedUptoRow.holds Try.pinned (OpenSpec.upto facesTurnedSpec)

end Rows
end Go.Proofs.Ytmikcfddipldnaa
