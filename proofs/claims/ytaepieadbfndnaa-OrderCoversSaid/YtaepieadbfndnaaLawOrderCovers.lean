/- The law tangram/tangramlaw24.OrderCovers: for every input it returns true, and the input reads as it did. No condition. (The row: out of the theorem Rot.OrderCovers on its call.) -/
import Derived.Test.YtaepieadbfndnaaRows
import Derived.Test.YtaepieadbfndnaaCOrderCoversi
import Derived.Test.YtaepieadbfndnaaCOrderCoversh
import Derived.WalkKit
import Derived.ProofKit
import Derived.OpenShut
import Derived.ShutString
import Derived.ChangeOld
import Derived.Below
import Derived.SizedLaws
namespace Go.Proofs.Ytaepieadbfndnaa.orderCovers
open Go.ChangeShapes Go.WideShapes Go.ChangeAt Go.RowKit Go.Proofs.Ytaepieadbfndnaa.Open Go.Proofs.YtaepieadbfndnaaW.PrintWords Go.Proofs.Ytaepieadbfndnaa.GAll
set_option linter.unusedVariables false
set_option linter.unusedSimpArgs false
theorem own : ownKnob Try.prog.godebug = none := by kernel_rfl
theorem laidOut : laidOutB Try.prog = true := by kernel_rfl
set_option maxRecDepth 100000 in
theorem lifted (os : Os) (started : os.Started) (H : Type) (enc : TypeId × Value → H) :
    ReturnsInHanded {} Try.checked os 6 .any (Rows.orderCoversSpec.pre6 enc Try.prog Try.f6 Rows.orderCoversRow.domain false) (Rows.orderCoversSpec.post enc Try.prog Try.f6 false true false false) := by
  refine returnsInHanded_of_change_sized (C := Try.checked) own started (by kernel_rfl) Try.func6
    (ChangeSpec.witness6 (enc := enc) (C := Try.checked) false ⟨#[], #[.agg #[.int .i64 0, .slice none 0 0, .slice none 0 0, .int .i64 0, .slice none 0 0]], []⟩ 8 (by kernel_rfl) (by kernel_rfl) (by kernel_rfl) (by kernel_rfl)) ?_
  intro W base args ds gs before hval0 hW hcnd hsz0 _
  have hsz : (DataW.weightsEach Try.prog (Try.f6.params.toList ++ Rows.orderCoversSpec.plain.varTypes Try.prog) (ds ++ gs)).all (· ≤ reachBytes) = true := hsz0
  have hval : ∀ (j : Nat) t v, Try.f6.params[j]? = some t → args[j]? = some v → Value.okWide Try.prog W .any base t v := hval0
  have hW' := hW
  obtain ⟨p, q, hA0, hV, rfl, hfz, hnd⟩ := hW
  have hA : DataW.TrodAll enc Try.prog W 0 (fun _ => true) true Try.f6.params.toList args.toList ds p := hA0
  rw [Try.params6] at hA hval hsz
  obtain ⟨v0, vs0, d0, ds0, p0, q0, hargs, rfl, rfl, h0, r0⟩ := trodAll_cons hA
  obtain ⟨rfl, rfl, rfl⟩ := trodAll_nil r0
  obtain rfl : args = #[v0] := by cases args; simp_all
  obtain ⟨rfl, rfl⟩ := trodVars_none hV
  have k0 := h0
  have lt0 : ∀ x ∈ p0, x.block < W.heap.size := by obtain ⟨m, hm⟩ := k0; exact DataW.trod_lt m _ _ _ hm
  obtain ⟨x0, K0, g0⟩ := open_arg (opens_four Try.underlying29 (opens_two Try.underlying24 (opens_int Try.underlying3) (opens_slice (e := 41) (d := k41) (B := 16) Try.underlying22 (by kernel_rfl) (by kernel_rfl) (opens_iso (d := (Kd.pair (Kd.int .i64) (Kd.int .i64))) (fun x => (⟨x.1, x.2⟩ : S41)) (fun _ => rfl) (opens_two Try.underlying41 (opens_int Try.underlying3) (opens_int Try.underlying3) (by kernel_rfl) (by kernel_rfl) (by kernel_rfl) (by kernel_rfl) (by kernel_rfl))) z41) (by kernel_rfl) (by kernel_rfl) (by kernel_rfl) (by kernel_rfl) (by kernel_rfl)) (opens_slice (e := 27) (d := (Kd.slice 3 (Kd.int .i64))) (B := 24) Try.underlying26 (by kernel_rfl) (by kernel_rfl) (opens_slice (e := 3) (d := (Kd.int .i64)) (B := 8) Try.underlying27 (by kernel_rfl) (by kernel_rfl) (opens_int Try.underlying3) (0 : Int)) []) (opens_int Try.underlying3) (opens_slice (e := 3) (d := (Kd.int .i64)) (B := 8) Try.underlying27 (by kernel_rfl) (by kernel_rfl) (opens_int Try.underlying3) (0 : Int)) (by kernel_rfl) (by kernel_rfl) (by kernel_rfl) (by kernel_rfl) (by kernel_rfl) (by kernel_rfl) (by kernel_rfl) (by kernel_rfl) (by kernel_rfl)) h0 (weight_at hsz (j := 0) rfl rfl)
  obtain ⟨cs0, rfl, _⟩ := okWide_struct Try.underlying29 (hval 0 29 v0 rfl rfl)
  have K0' : (Kd.pair (Kd.pair (Kd.int .i64) (Kd.slice 41 k41)) (Kd.pair (Kd.slice 27 (Kd.slice 3 (Kd.int .i64))) (Kd.pair (Kd.int .i64) (Kd.slice 3 (Kd.int .i64))))).K W x0 cs0.toList := K0
  obtain ⟨b0_0, r0_0, e0_0, m0_0, t0_0⟩ := K0'
  obtain ⟨b0_0_0, r0_0_0, e0_0_0, m0_0_0, t0_0_0⟩ := m0_0
  have q0_0_0 : b0_0_0 = [.int .i64 x0.1.1] := m0_0_0
  obtain ⟨A0_0_1, c0_0_1, q0_0_1, hc0_0_1, hr0_0_1⟩ := t0_0_0
  obtain ⟨b0_1, r0_1, e0_1, m0_1, t0_1⟩ := t0_0
  obtain ⟨A0_1, c0_1, q0_1, hc0_1, hr0_1⟩ := m0_1
  obtain ⟨b0_2, r0_2, e0_2, m0_2, t0_2⟩ := t0_1
  have q0_2 : b0_2 = [.int .i64 x0.2.2.1] := m0_2
  obtain ⟨A0_3, c0_3, q0_3, hc0_3, hr0_3⟩ := t0_2
  obtain rfl : cs0 = #[.int .i64 x0.1.1, .slice A0_0_1 x0.1.2.length c0_0_1, .slice A0_1 x0.2.1.length c0_1, .int .i64 x0.2.2.1, .slice A0_3 x0.2.2.2.length c0_3] := by
    apply Array.ext'
    simp only [e0_0, e0_0_0, q0_0_0, q0_0_1, e0_1, q0_1, e0_2, q0_2, q0_3]; rfl
  clear hA0 hval0 hsz0 hsz
  refine (Rot.OrderCovers x0.1.1 A0_0_1 c0_0_1 x0.1.2 A0_1 c0_1 x0.2.1 x0.2.2.1 A0_3 c0_3 x0.2.2.2 W hr0_0_1 hc0_0_1 hr0_1 hc0_1 hr0_3 hc0_3 g0).mono fun e W' ⟨he, bel⟩ => ?_
  subst he
  exact ⟨_, rfl, _, _, _, [], _, [], hW', trodAll_mk1 (shut_bool Try.underlying4 _), (trodAll_cons_mk (Below.trod laidOut (by kernel_rfl) (of_decide_eq_true (by kernel_rfl)) k0 bel lt0) trodAll_mk0), rfl, bel.frame _, fun h => by cases h⟩
theorem over : Rows.orderCoversRow.holds Try.pinned (OpenSpec.ofChange Rows.orderCoversSpec) :=
  OpenClaim.holds_of_wide 6 Try.f6 rfl rfl rfl rfl rfl rfl rfl ⟨rfl, rfl, rfl, rfl, rfl⟩ rfl rfl rfl rfl rfl (by kernel_rfl) Try.func6 (by kernel_rfl)
    (of_decide_eq_true (by kernel_rfl)) (by unfold Func.isWrapper; first | (rw [if_pos (by decide +kernel)]; kernel_rfl) | (rw [if_neg (by decide +kernel)]; exact ⟨rfl, rfl⟩))
    (fun os started H enc _ => lifted os started H enc)
theorem proved : Rows.OrderCoversSaid := over
#print axioms proved
end Go.Proofs.Ytaepieadbfndnaa.orderCovers
namespace Go.Proofs.Ytaepieadbfndnaa
/-- The row, under a short name, for the claim. -/
theorem orderCovers_holds : Rows.OrderCoversSaid := orderCovers.proved
end Go.Proofs.Ytaepieadbfndnaa
