/- The law tangram/tangramlaw05.CompsOrder: for every input it returns true, and the input reads as it did. No condition. (The row: out of the theorem PureX.CompsOrder on its call.) -/
import Derived.Test.YtoajoklpbfehiaaRows
import Derived.Test.YtoajoklpbfehiaaPureCompsOrder
import Derived.Test.YtoajoklpbfehiaaOpen
import Derived.WalkKit
import Derived.ProofKit
import Derived.OpenShut
import Derived.ShutString
import Derived.ChangeOld
import Derived.Below
import Derived.SizedLaws
namespace Go.Proofs.Ytoajoklpbfehiaa.compsOrder
open Go.ChangeShapes Go.WideShapes Go.ChangeAt Go.RowKit Go.Proofs.Ytoajoklpbfehiaa.Open Go.Proofs.YtoajoklpbfehiaaW.PrintWords Go.Proofs.Ytoajoklpbfehiaa.GAll
set_option linter.unusedVariables false
set_option linter.unusedSimpArgs false
theorem own : ownKnob Try.prog.godebug = none := by kernel_rfl
theorem laidOut : laidOutB Try.prog = true := by kernel_rfl
set_option maxRecDepth 100000 in
theorem lifted (os : Os) (started : os.Started) (H : Type) (enc : TypeId × Value → H) :
    ReturnsInHanded {} Try.checked os 6 .any (Rows.compsOrderSpec.pre6 enc Try.prog Try.f6 Rows.compsOrderRow.domain false) (Rows.compsOrderSpec.post enc Try.prog Try.f6 false true false false) := by
  refine returnsInHanded_of_change_sized (C := Try.checked) own started (by kernel_rfl) Try.func6
    (ChangeSpec.witness6 (enc := enc) (C := Try.checked) false ⟨#[], #[.int .i64 0, .slice none 0 0, .slice none 0 0], []⟩ 8 (by kernel_rfl) (by kernel_rfl) (by kernel_rfl) (by kernel_rfl)) ?_
  intro W base args ds gs before hval0 hW hcnd hsz0 _
  have hsz : (DataW.weightsEach Try.prog (Try.f6.params.toList ++ Rows.compsOrderSpec.plain.varTypes Try.prog) (ds ++ gs)).all (· ≤ reachBytes) = true := hsz0
  have hval : ∀ (j : Nat) t v, Try.f6.params[j]? = some t → args[j]? = some v → Value.okWide Try.prog W .any base t v := hval0
  have hW' := hW
  obtain ⟨p, q, hA0, hV, rfl, hfz, hnd⟩ := hW
  have hA : DataW.TrodAll enc Try.prog W 0 (fun _ => true) true Try.f6.params.toList args.toList ds p := hA0
  rw [Try.params6] at hA hval hsz
  obtain ⟨v0, vs0, d0, ds0, p0, q0, hargs, rfl, rfl, h0, r0⟩ := trodAll_cons hA
  obtain ⟨v1, vs1, d1, ds1, p1, q1, rfl, rfl, rfl, h1, r1⟩ := trodAll_cons r0
  obtain ⟨v2, vs2, d2, ds2, p2, q2, rfl, rfl, rfl, h2, r2⟩ := trodAll_cons r1
  obtain ⟨rfl, rfl, rfl⟩ := trodAll_nil r2
  obtain rfl : args = #[v0, v1, v2] := by cases args; simp_all
  obtain ⟨rfl, rfl⟩ := trodVars_none hV
  have k0 := h0
  have lt0 : ∀ x ∈ p0, x.block < W.heap.size := by obtain ⟨m, hm⟩ := k0; exact DataW.trod_lt m _ _ _ hm
  obtain ⟨x0, K0, g0⟩ := open_arg (opens_int Try.underlying3) h0 (weight_at hsz (j := 0) rfl rfl)
  obtain ⟨y0, rfl⟩ := okWide_int Try.underlying3 (hval 0 3 v0 rfl rfl)
  have e0 : [Value.int .i64 y0] = [.int .i64 x0] := K0
  obtain rfl : y0 = x0 := by simpa using e0
  have k1 := h1
  have lt1 : ∀ x ∈ p1, x.block < W.heap.size := by obtain ⟨m, hm⟩ := k1; exact DataW.trod_lt m _ _ _ hm
  obtain ⟨x1, K1, g1⟩ := open_arg (opens_slice (e := 45) (d := k45) (B := 16) Try.underlying41 (by kernel_rfl) (by kernel_rfl) (opens_iso (d := (Kd.pair (Kd.int .i64) (Kd.int .i64))) (fun x => (⟨x.1, x.2⟩ : S45)) (fun _ => rfl) (opens_two Try.underlying45 (opens_int Try.underlying3) (opens_int Try.underlying3) (by kernel_rfl) (by kernel_rfl) (by kernel_rfl) (by kernel_rfl) (by kernel_rfl))) z45) h1 (weight_at hsz (j := 1) rfl rfl)
  obtain ⟨A1, len1, c1, rfl⟩ := okWide_slice Try.underlying41 (hval 1 41 v1 rfl rfl)
  have K1' : (Kd.slice 45 k45).K W x1 [.slice A1 len1 c1] := K1
  obtain ⟨rfl, hc1, hr1⟩ := of_slice K1'
  have k2 := h2
  have lt2 : ∀ x ∈ p2, x.block < W.heap.size := by obtain ⟨m, hm⟩ := k2; exact DataW.trod_lt m _ _ _ hm
  obtain ⟨x2, K2, g2⟩ := open_arg (opens_slice (e := 3) (d := (Kd.int .i64)) (B := 8) Try.underlying34 (by kernel_rfl) (by kernel_rfl) (opens_int Try.underlying3) (0 : Int)) h2 (weight_at hsz (j := 2) rfl rfl)
  obtain ⟨A2, len2, c2, rfl⟩ := okWide_slice Try.underlying34 (hval 2 34 v2 rfl rfl)
  have K2' : (Kd.slice 3 (Kd.int .i64)).K W x2 [.slice A2 len2 c2] := K2
  obtain ⟨rfl, hc2, hr2⟩ := of_slice K2'
  clear hA0 hval0 hsz0 hsz
  refine (PureX.CompsOrder y0 A1 c1 x1 A2 c2 x2 W hr1 hc1 hr2 hc2 g0 g1 g2).mono fun e W' ⟨he, bel⟩ => ?_
  subst he
  exact ⟨_, rfl, _, _, _, [], _, [], hW', trodAll_mk1 (shut_bool Try.underlying4 _), (trodAll_cons_mk (Below.trod laidOut (by kernel_rfl) (of_decide_eq_true (by kernel_rfl)) k0 bel lt0) (trodAll_cons_mk (Below.trod laidOut (by kernel_rfl) (of_decide_eq_true (by kernel_rfl)) k1 bel lt1) (trodAll_cons_mk (Below.trod laidOut (by kernel_rfl) (of_decide_eq_true (by kernel_rfl)) k2 bel lt2) trodAll_mk0))), rfl, bel.frame _, fun h => by cases h⟩
theorem over : Rows.compsOrderRow.holds Try.pinned (OpenSpec.ofChange Rows.compsOrderSpec) :=
  OpenClaim.holds_of_wide 6 Try.f6 rfl rfl rfl rfl rfl rfl rfl ⟨rfl, rfl, rfl, rfl, rfl⟩ rfl rfl rfl rfl rfl (by kernel_rfl) Try.func6 (by kernel_rfl)
    (of_decide_eq_true (by kernel_rfl)) (by unfold Func.isWrapper; first | (rw [if_pos (by decide +kernel)]; kernel_rfl) | (rw [if_neg (by decide +kernel)]; exact ⟨rfl, rfl⟩))
    (fun os started H enc _ => lifted os started H enc)
theorem proved : Rows.CompsOrderSaid := over
#print axioms proved
end Go.Proofs.Ytoajoklpbfehiaa.compsOrder
namespace Go.Proofs.Ytoajoklpbfehiaa
/-- The row, under a short name, for the claim. -/
theorem compsOrder_holds : Rows.CompsOrderSaid := compsOrder.proved
end Go.Proofs.Ytoajoklpbfehiaa
