/- The law tangram/tangramlaw12.FacesForest: for every input it returns true, and the input reads as it did. No condition. (The row: out of the theorem Rot.FacesForest on its call.) -/
import Derived.Test.YtmikcfddipldnaaRows
import Derived.Test.YtmikcfddipldnaaCFacesForestg
import Derived.Test.YtmikcfddipldnaaCFacesForeste
import Derived.WalkKit
import Derived.ProofKit
import Derived.OpenShut
import Derived.ShutString
import Derived.ChangeOld
import Derived.Below
import Derived.SizedLaws
namespace Go.Proofs.Ytmikcfddipldnaa.facesForest
open Go.ChangeShapes Go.WideShapes Go.ChangeAt Go.RowKit Go.Proofs.Ytmikcfddipldnaa.Open Go.Proofs.YtmikcfddipldnaaW.PrintWords Go.Proofs.Ytmikcfddipldnaa.GAll
set_option linter.unusedVariables false
set_option linter.unusedSimpArgs false
theorem own : ownKnob Try.prog.godebug = none := by kernel_rfl
theorem laidOut : laidOutB Try.prog = true := by kernel_rfl
set_option maxRecDepth 100000 in
theorem lifted (os : Os) (started : os.Started) (H : Type) (enc : TypeId × Value → H) :
    ReturnsInHanded {} Try.checked os 7 .any (Rows.facesForestSpec.pre6 enc Try.prog Try.f7 Rows.facesForestRow.domain false) (Rows.facesForestSpec.post enc Try.prog Try.f7 false true false false) := by
  refine returnsInHanded_of_change_sized (C := Try.checked) own started (by kernel_rfl) Try.func7
    (ChangeSpec.witness6 (enc := enc) (C := Try.checked) false ⟨#[], #[.slice none 0 0, .slice none 0 0], []⟩ 8 (by kernel_rfl) (by kernel_rfl) (by kernel_rfl) (by kernel_rfl)) ?_
  intro W base args ds gs before hval0 hW hcnd hsz0 _
  have hsz : (DataW.weightsEach Try.prog (Try.f7.params.toList ++ Rows.facesForestSpec.plain.varTypes Try.prog) (ds ++ gs)).all (· ≤ reachBytes) = true := hsz0
  have hval : ∀ (j : Nat) t v, Try.f7.params[j]? = some t → args[j]? = some v → Value.okWide Try.prog W .any base t v := hval0
  have hW' := hW
  obtain ⟨p, q, hA0, hV, rfl, hfz, hnd⟩ := hW
  have hA : DataW.TrodAll enc Try.prog W 0 (fun _ => true) true Try.f7.params.toList args.toList ds p := hA0
  rw [Try.params7] at hA hval hsz
  obtain ⟨v0, vs0, d0, ds0, p0, q0, hargs, rfl, rfl, h0, r0⟩ := trodAll_cons hA
  obtain ⟨v1, vs1, d1, ds1, p1, q1, rfl, rfl, rfl, h1, r1⟩ := trodAll_cons r0
  obtain ⟨rfl, rfl, rfl⟩ := trodAll_nil r1
  obtain rfl : args = #[v0, v1] := by cases args; simp_all
  obtain ⟨rfl, rfl⟩ := trodVars_none hV
  have k0 := h0
  have lt0 : ∀ x ∈ p0, x.block < W.heap.size := by obtain ⟨m, hm⟩ := k0; exact DataW.trod_lt m _ _ _ hm
  obtain ⟨x0, K0, g0⟩ := open_arg (opens_slice (e := 3) (d := (Kd.int .i64)) (B := 8) Try.underlying36 (by kernel_rfl) (by kernel_rfl) (opens_int Try.underlying3) (0 : Int)) h0 (weight_at hsz (j := 0) rfl rfl)
  obtain ⟨A0, len0, c0, rfl⟩ := okWide_slice Try.underlying36 (hval 0 36 v0 rfl rfl)
  have K0' : (Kd.slice 3 (Kd.int .i64)).K W x0 [.slice A0 len0 c0] := K0
  obtain ⟨rfl, hc0, hr0⟩ := of_slice K0'
  have k1 := h1
  have lt1 : ∀ x ∈ p1, x.block < W.heap.size := by obtain ⟨m, hm⟩ := k1; exact DataW.trod_lt m _ _ _ hm
  obtain ⟨x1, K1, g1⟩ := open_arg (opens_slice (e := 3) (d := (Kd.int .i64)) (B := 8) Try.underlying36 (by kernel_rfl) (by kernel_rfl) (opens_int Try.underlying3) (0 : Int)) h1 (weight_at hsz (j := 1) rfl rfl)
  obtain ⟨A1, len1, c1, rfl⟩ := okWide_slice Try.underlying36 (hval 1 36 v1 rfl rfl)
  have K1' : (Kd.slice 3 (Kd.int .i64)).K W x1 [.slice A1 len1 c1] := K1
  obtain ⟨rfl, hc1, hr1⟩ := of_slice K1'
  clear hA0 hval0 hsz0 hsz
  refine (Rot.FacesForest A0 c0 x0 A1 c1 x1 W hr0 hc0 hr1 hc1 g0 g1).mono fun e W' ⟨he, bel⟩ => ?_
  subst he
  exact ⟨_, rfl, _, _, _, [], _, [], hW', trodAll_mk1 (shut_bool Try.underlying4 _), (trodAll_cons_mk (Below.trod laidOut (by kernel_rfl) (of_decide_eq_true (by kernel_rfl)) k0 bel lt0) (trodAll_cons_mk (Below.trod laidOut (by kernel_rfl) (of_decide_eq_true (by kernel_rfl)) k1 bel lt1) trodAll_mk0)), rfl, bel.frame _, fun h => by cases h⟩
theorem over : Rows.facesForestRow.holds Try.pinned (OpenSpec.ofChange Rows.facesForestSpec) :=
  OpenClaim.holds_of_wide 7 Try.f7 rfl rfl rfl rfl rfl rfl rfl ⟨rfl, rfl, rfl, rfl, rfl⟩ rfl rfl rfl rfl rfl (by kernel_rfl) Try.func7 (by kernel_rfl)
    (of_decide_eq_true (by kernel_rfl)) (by unfold Func.isWrapper; first | (rw [if_pos (by decide +kernel)]; kernel_rfl) | (rw [if_neg (by decide +kernel)]; exact ⟨rfl, rfl⟩))
    (fun os started H enc _ => lifted os started H enc)
theorem proved : Rows.FacesForestSaid := over
#print axioms proved
end Go.Proofs.Ytmikcfddipldnaa.facesForest
namespace Go.Proofs.Ytmikcfddipldnaa
/-- The row, under a short name, for the claim. -/
theorem facesForest_holds : Rows.FacesForestSaid := facesForest.proved
end Go.Proofs.Ytmikcfddipldnaa
