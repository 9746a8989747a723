/- The law tangram/tangramlaw11.RotMemory: for every input it returns true, and the input reads as it did. No condition. (The row: out of the theorem Rot.RotMemory on its call.) -/
import Derived.Test.YtkkhhbegeboonaaRows
import Derived.Test.YtkkhhbegeboonaaCRotMemoryf
import Derived.WalkKit
import Derived.ProofKit
import Derived.OpenShut
import Derived.ShutString
import Derived.ChangeOld
import Derived.Below
import Derived.SizedLaws
namespace Go.Proofs.Ytkkhhbegeboonaa.rotMemory
open Go.ChangeShapes Go.WideShapes Go.ChangeAt Go.RowKit Go.Proofs.Ytkkhhbegeboonaa.Open Go.Proofs.YtkkhhbegeboonaaW.PrintWords Go.Proofs.Ytkkhhbegeboonaa.GAll
set_option linter.unusedVariables false
set_option linter.unusedSimpArgs false
theorem own : ownKnob Try.prog.godebug = none := by kernel_rfl
theorem laidOut : laidOutB Try.prog = true := by kernel_rfl
set_option maxRecDepth 100000 in
theorem lifted (os : Os) (started : os.Started) (H : Type) (enc : TypeId × Value → H) (F : Stop.Interp) :
    ReturnsInHanded {} Try.checked os 9 .any ((Rows.OpenSpec.upto Rows.rotMemorySpec).pre6 enc Try.prog Try.f9 Rows.rotMemoryUptoRow.domain false) (((Rows.OpenSpec.upto Rows.rotMemorySpec).at F).post enc Try.prog Try.f9 false true false false) := by
  refine returnsInHanded_of_cond_sized (C := Try.checked) (s := (Rows.OpenSpec.upto Rows.rotMemorySpec)) (k := Rows.uptoSmall) rfl own started (by kernel_rfl) Try.func9
    (OpenSpec.witness (enc := enc) (C := Try.checked) (s := (Rows.OpenSpec.upto Rows.rotMemorySpec)) (k := Rows.uptoSmall) rfl false ⟨#[], #[.agg #[.int .i64 0, .slice none 0 0], .slice none 0 0], []⟩ 8 (by kernel_rfl) (by kernel_rfl) (by kernel_rfl) (x := ([.agg [.lit (.int .i64 0), .nil], .nil], [], [])) (by kernel_rfl) rfl (by kernel_rfl)) ?_
  intro W base args ds gs before hval0 hW hcnd hk hsz0 _
  have hsz : (DataW.weightsEach Try.prog (Try.f9.params.toList ++ Rows.rotMemorySpec.plain.varTypes Try.prog) (ds ++ gs)).all (· ≤ reachBytes) = true := hsz0
  have hval : ∀ (j : Nat) t v, Try.f9.params[j]? = some t → args[j]? = some v → Value.okWide Try.prog W .any base t v := hval0
  have hW' := hW
  obtain ⟨p, q, hA0, hV, rfl, hfz, hnd⟩ := hW
  have hA : DataW.TrodAll enc Try.prog W 0 (fun _ => true) true Try.f9.params.toList args.toList ds p := hA0
  rw [Try.params9] at hA hval hsz
  obtain ⟨v0, vs0, d0, ds0, p0, q0, hargs, rfl, rfl, h0, r0⟩ := trodAll_cons hA
  obtain ⟨v1, vs1, d1, ds1, p1, q1, rfl, rfl, rfl, h1, r1⟩ := trodAll_cons r0
  obtain ⟨rfl, rfl, rfl⟩ := trodAll_nil r1
  obtain rfl : args = #[v0, v1] := by cases args; simp_all
  obtain ⟨rfl, rfl⟩ := trodVars_none hV
  have k0 := h0
  have lt0 : ∀ x ∈ p0, x.block < W.heap.size := by obtain ⟨m, hm⟩ := k0; exact DataW.trod_lt m _ _ _ hm
  obtain ⟨x0, K0, g0⟩ := open_arg (opens_two Try.underlying24 (opens_int Try.underlying3) (opens_slice (e := 59) (d := k59) (B := 16) Try.underlying22 (by kernel_rfl) (by kernel_rfl) (opens_iso (d := (Kd.pair (Kd.int .i64) (Kd.int .i64))) (fun x => (⟨x.1, x.2⟩ : S59)) (fun _ => rfl) (opens_two Try.underlying59 (opens_int Try.underlying3) (opens_int Try.underlying3) (by kernel_rfl) (by kernel_rfl) (by kernel_rfl) (by kernel_rfl) (by kernel_rfl))) z59) (by kernel_rfl) (by kernel_rfl) (by kernel_rfl) (by kernel_rfl) (by kernel_rfl)) h0 (weight_at hsz (j := 0) rfl rfl)
  obtain ⟨cs0, rfl, _⟩ := okWide_struct Try.underlying24 (hval 0 24 v0 rfl rfl)
  have K0' : (Kd.pair (Kd.int .i64) (Kd.slice 59 k59)).K W x0 cs0.toList := K0
  obtain ⟨b0_0, r0_0, e0_0, m0_0, t0_0⟩ := K0'
  have q0_0 : b0_0 = [.int .i64 x0.1] := m0_0
  obtain ⟨A0_1, c0_1, q0_1, hc0_1, hr0_1⟩ := t0_0
  obtain rfl : cs0 = #[.int .i64 x0.1, .slice A0_1 x0.2.length c0_1] := by
    apply Array.ext'
    simp only [e0_0, q0_0, q0_1]; rfl
  have k1 := h1
  have lt1 : ∀ x ∈ p1, x.block < W.heap.size := by obtain ⟨m, hm⟩ := k1; exact DataW.trod_lt m _ _ _ hm
  obtain ⟨x1, K1, gg1, gb1⟩ := open_argB (opensB_slice (e := 28) (d := (Kd.slice 3 (Kd.int .i64))) (B := 24) Try.underlying26 (by kernel_rfl) (by kernel_rfl) (opensB_slice (e := 3) (d := (Kd.int .i64)) (B := 8) Try.underlying28 (by kernel_rfl) (by kernel_rfl) (opensB_int Try.underlying3) (0 : Int)) []) h1 (weight_at hsz (j := 1) rfl rfl)
  have g1 := And.intro gg1 (Nat.le_trans gb1 (bulk_at (by simp) hk))
  obtain ⟨A1, len1, c1, rfl⟩ := okWide_slice Try.underlying26 (hval 1 26 v1 rfl rfl)
  have K1' : (Kd.slice 28 (Kd.slice 3 (Kd.int .i64))).K W x1 [.slice A1 len1 c1] := K1
  obtain ⟨rfl, hc1, hr1⟩ := of_slice K1'
  clear hA0 hval0 hsz0 hsz
  refine (Rot.RotMemory x0.1 A0_1 c0_1 x0.2 A1 c1 x1 W hr0_1 hc0_1 hr1 hc1 g0 g1).mono fun e W' ⟨he, bel⟩ => ?_
  subst he
  exact ⟨_, rfl, _, _, _, [], _, [], hW', trodAll_mk1 (shut_bool Try.underlying4 _), (trodAll_cons_mk (Below.trod laidOut (by kernel_rfl) (of_decide_eq_true (by kernel_rfl)) k0 bel lt0) (trodAll_cons_mk (Below.trod laidOut (by kernel_rfl) (of_decide_eq_true (by kernel_rfl)) k1 bel lt1) trodAll_mk0)), rfl, bel.frame _, fun h => by cases h⟩
theorem over : Rows.rotMemoryUptoRow.holds Try.pinned (Rows.OpenSpec.upto Rows.rotMemorySpec) :=
  OpenClaim.holds_of_cond 9 Try.f9 rfl rfl rfl rfl rfl rfl rfl ⟨rfl, rfl, rfl, rfl, rfl⟩ rfl rfl rfl rfl rfl (by kernel_rfl) Try.func9 (by kernel_rfl)
    (of_decide_eq_true (by kernel_rfl)) (by unfold Func.isWrapper; first | (rw [if_pos (by decide +kernel)]; kernel_rfl) | (rw [if_neg (by decide +kernel)]; exact ⟨rfl, rfl⟩))
    (fun os started H enc _ F => lifted os started H enc F)
theorem proved : Rows.RotMemoryUptoSaid := over
#print axioms proved
end Go.Proofs.Ytkkhhbegeboonaa.rotMemory
namespace Go.Proofs.Ytkkhhbegeboonaa
/-- The row, under a short name, for the claim. -/
theorem rotMemory_holds : Rows.RotMemoryUptoSaid := rotMemory.proved
end Go.Proofs.Ytkkhhbegeboonaa
