/- The law tangram/tangramlaw21.CanonMatches: for every input it returns true, and the input reads as it did. No condition. (The row: out of the theorem Rot.CanonMatches on its call.) -/
import Derived.Test.YteeihjpnhjnknaaRows
import Derived.Test.YteeihjpnhjnknaaCCanonMatchesd
import Derived.WalkKit
import Derived.ProofKit
import Derived.OpenShut
import Derived.ShutString
import Derived.ChangeOld
import Derived.Below
import Derived.SizedLaws
namespace Go.Proofs.Yteeihjpnhjnknaa.canonMatches
open Go.ChangeShapes Go.WideShapes Go.ChangeAt Go.RowKit Go.Proofs.Yteeihjpnhjnknaa.Open Go.Proofs.YteeihjpnhjnknaaW.PrintWords Go.Proofs.Yteeihjpnhjnknaa.GAll
set_option linter.unusedVariables false
set_option linter.unusedSimpArgs false
theorem own : ownKnob Try.prog.godebug = none := by kernel_rfl
theorem laidOut : laidOutB Try.prog = true := by kernel_rfl
set_option maxRecDepth 100000 in
theorem lifted (os : Os) (started : os.Started) (H : Type) (enc : TypeId × Value → H) :
    ReturnsInHanded {} Try.checked os 5 .any (Rows.canonMatchesSpec.pre6 enc Try.prog Try.f5 Rows.canonMatchesRow.domain false) (Rows.canonMatchesSpec.post enc Try.prog Try.f5 false true false false) := by
  refine returnsInHanded_of_change_sized (C := Try.checked) own started (by kernel_rfl) Try.func5
    (ChangeSpec.witness6 (enc := enc) (C := Try.checked) false ⟨#[], #[.agg #[.int .i64 0, .slice none 0 0, .slice none 0 0], .agg #[.int .i64 0, .slice none 0 0, .slice none 0 0]], []⟩ 8 (by kernel_rfl) (by kernel_rfl) (by kernel_rfl) (by kernel_rfl)) ?_
  intro W base args ds gs before hval0 hW hcnd hsz0 _
  have hsz : (DataW.weightsEach Try.prog (Try.f5.params.toList ++ Rows.canonMatchesSpec.plain.varTypes Try.prog) (ds ++ gs)).all (· ≤ reachBytes) = true := hsz0
  have hval : ∀ (j : Nat) t v, Try.f5.params[j]? = some t → args[j]? = some v → Value.okWide Try.prog W .any base t v := hval0
  have hW' := hW
  obtain ⟨p, q, hA0, hV, rfl, hfz, hnd⟩ := hW
  have hA : DataW.TrodAll enc Try.prog W 0 (fun _ => true) true Try.f5.params.toList args.toList ds p := hA0
  rw [Try.params5] at hA hval hsz
  obtain ⟨v0, vs0, d0, ds0, p0, q0, hargs, rfl, rfl, h0, r0⟩ := trodAll_cons hA
  obtain ⟨v1, vs1, d1, ds1, p1, q1, rfl, rfl, rfl, h1, r1⟩ := trodAll_cons r0
  obtain ⟨rfl, rfl, rfl⟩ := trodAll_nil r1
  obtain rfl : args = #[v0, v1] := by cases args; simp_all
  obtain ⟨rfl, rfl⟩ := trodVars_none hV
  have k0 := h0
  have lt0 : ∀ x ∈ p0, x.block < W.heap.size := by obtain ⟨m, hm⟩ := k0; exact DataW.trod_lt m _ _ _ hm
  obtain ⟨x0, K0, g0⟩ := open_arg (opens_two Try.underlying31 (opens_two Try.underlying24 (opens_int Try.underlying3) (opens_slice (e := 89) (d := k89) (B := 16) Try.underlying22 (by kernel_rfl) (by kernel_rfl) (opens_iso (d := (Kd.pair (Kd.int .i64) (Kd.int .i64))) (fun x => (⟨x.1, x.2⟩ : S89)) (fun _ => rfl) (opens_two Try.underlying89 (opens_int Try.underlying3) (opens_int Try.underlying3) (by kernel_rfl) (by kernel_rfl) (by kernel_rfl) (by kernel_rfl) (by kernel_rfl))) z89) (by kernel_rfl) (by kernel_rfl) (by kernel_rfl) (by kernel_rfl) (by kernel_rfl)) (opens_slice (e := 32) (d := (Kd.slice 3 (Kd.int .i64))) (B := 24) Try.underlying26 (by kernel_rfl) (by kernel_rfl) (opens_slice (e := 3) (d := (Kd.int .i64)) (B := 8) Try.underlying32 (by kernel_rfl) (by kernel_rfl) (opens_int Try.underlying3) (0 : Int)) []) (by kernel_rfl) (by kernel_rfl) (by kernel_rfl) (by kernel_rfl) (by kernel_rfl)) h0 (weight_at hsz (j := 0) rfl rfl)
  obtain ⟨cs0, rfl, _⟩ := okWide_struct Try.underlying31 (hval 0 31 v0 rfl rfl)
  have K0' : (Kd.pair (Kd.pair (Kd.int .i64) (Kd.slice 89 k89)) (Kd.slice 32 (Kd.slice 3 (Kd.int .i64)))).K W x0 cs0.toList := K0
  obtain ⟨b0_0, r0_0, e0_0, m0_0, t0_0⟩ := K0'
  obtain ⟨b0_0_0, r0_0_0, e0_0_0, m0_0_0, t0_0_0⟩ := m0_0
  have q0_0_0 : b0_0_0 = [.int .i64 x0.1.1] := m0_0_0
  obtain ⟨A0_0_1, c0_0_1, q0_0_1, hc0_0_1, hr0_0_1⟩ := t0_0_0
  obtain ⟨A0_1, c0_1, q0_1, hc0_1, hr0_1⟩ := t0_0
  obtain rfl : cs0 = #[.int .i64 x0.1.1, .slice A0_0_1 x0.1.2.length c0_0_1, .slice A0_1 x0.2.length c0_1] := by
    apply Array.ext'
    simp only [e0_0, e0_0_0, q0_0_0, q0_0_1, q0_1]; rfl
  have k1 := h1
  have lt1 : ∀ x ∈ p1, x.block < W.heap.size := by obtain ⟨m, hm⟩ := k1; exact DataW.trod_lt m _ _ _ hm
  obtain ⟨x1, K1, g1⟩ := open_arg (opens_two Try.underlying31 (opens_two Try.underlying24 (opens_int Try.underlying3) (opens_slice (e := 89) (d := k89) (B := 16) Try.underlying22 (by kernel_rfl) (by kernel_rfl) (opens_iso (d := (Kd.pair (Kd.int .i64) (Kd.int .i64))) (fun x => (⟨x.1, x.2⟩ : S89)) (fun _ => rfl) (opens_two Try.underlying89 (opens_int Try.underlying3) (opens_int Try.underlying3) (by kernel_rfl) (by kernel_rfl) (by kernel_rfl) (by kernel_rfl) (by kernel_rfl))) z89) (by kernel_rfl) (by kernel_rfl) (by kernel_rfl) (by kernel_rfl) (by kernel_rfl)) (opens_slice (e := 32) (d := (Kd.slice 3 (Kd.int .i64))) (B := 24) Try.underlying26 (by kernel_rfl) (by kernel_rfl) (opens_slice (e := 3) (d := (Kd.int .i64)) (B := 8) Try.underlying32 (by kernel_rfl) (by kernel_rfl) (opens_int Try.underlying3) (0 : Int)) []) (by kernel_rfl) (by kernel_rfl) (by kernel_rfl) (by kernel_rfl) (by kernel_rfl)) h1 (weight_at hsz (j := 1) rfl rfl)
  obtain ⟨cs1, rfl, _⟩ := okWide_struct Try.underlying31 (hval 1 31 v1 rfl rfl)
  have K1' : (Kd.pair (Kd.pair (Kd.int .i64) (Kd.slice 89 k89)) (Kd.slice 32 (Kd.slice 3 (Kd.int .i64)))).K W x1 cs1.toList := K1
  obtain ⟨b1_0, r1_0, e1_0, m1_0, t1_0⟩ := K1'
  obtain ⟨b1_0_0, r1_0_0, e1_0_0, m1_0_0, t1_0_0⟩ := m1_0
  have q1_0_0 : b1_0_0 = [.int .i64 x1.1.1] := m1_0_0
  obtain ⟨A1_0_1, c1_0_1, q1_0_1, hc1_0_1, hr1_0_1⟩ := t1_0_0
  obtain ⟨A1_1, c1_1, q1_1, hc1_1, hr1_1⟩ := t1_0
  obtain rfl : cs1 = #[.int .i64 x1.1.1, .slice A1_0_1 x1.1.2.length c1_0_1, .slice A1_1 x1.2.length c1_1] := by
    apply Array.ext'
    simp only [e1_0, e1_0_0, q1_0_0, q1_0_1, q1_1]; rfl
  clear hA0 hval0 hsz0 hsz
  refine (Rot.CanonMatches x0.1.1 A0_0_1 c0_0_1 x0.1.2 A0_1 c0_1 x0.2 x1.1.1 A1_0_1 c1_0_1 x1.1.2 A1_1 c1_1 x1.2 W hr0_0_1 hc0_0_1 hr0_1 hc0_1 hr1_0_1 hc1_0_1 hr1_1 hc1_1 g0 g1).mono fun e W' ⟨he, bel⟩ => ?_
  subst he
  exact ⟨_, rfl, _, _, _, [], _, [], hW', trodAll_mk1 (shut_bool Try.underlying4 _), (trodAll_cons_mk (Below.trod laidOut (by kernel_rfl) (of_decide_eq_true (by kernel_rfl)) k0 bel lt0) (trodAll_cons_mk (Below.trod laidOut (by kernel_rfl) (of_decide_eq_true (by kernel_rfl)) k1 bel lt1) trodAll_mk0)), rfl, bel.frame _, fun h => by cases h⟩
theorem over : Rows.canonMatchesRow.holds Try.pinned (OpenSpec.ofChange Rows.canonMatchesSpec) :=
  OpenClaim.holds_of_wide 5 Try.f5 rfl rfl rfl rfl rfl rfl rfl ⟨rfl, rfl, rfl, rfl, rfl⟩ rfl rfl rfl rfl rfl (by kernel_rfl) Try.func5 (by kernel_rfl)
    (of_decide_eq_true (by kernel_rfl)) (by unfold Func.isWrapper; first | (rw [if_pos (by decide +kernel)]; kernel_rfl) | (rw [if_neg (by decide +kernel)]; exact ⟨rfl, rfl⟩))
    (fun os started H enc _ => lifted os started H enc)
theorem proved : Rows.CanonMatchesSaid := over
#print axioms proved
end Go.Proofs.Yteeihjpnhjnknaa.canonMatches
namespace Go.Proofs.Yteeihjpnhjnknaa
/-- The row, under a short name, for the claim. -/
theorem canonMatches_holds : Rows.CanonMatchesSaid := canonMatches.proved
end Go.Proofs.Yteeihjpnhjnknaa
