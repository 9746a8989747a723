/- The law tangram/tangramlaw05.CompsJoins: for every input it returns true, and the input reads as it did. No condition. (The row: out of the theorem PureX.CompsJoins on its call.) -/
import Derived.Test.YtoajoklpbfehiaaRows
import Derived.Test.YtoajoklpbfehiaaPureCompsJoins
import Derived.Test.YtoajoklpbfehiaaOpen
import Derived.WalkKit
import Derived.ProofKit
import Derived.OpenShut
import Derived.ShutString
import Derived.ChangeOld
import Derived.Below
import Derived.SizedLaws
namespace Go.Proofs.Ytoajoklpbfehiaa.compsJoins
open Go.ChangeShapes Go.WideShapes Go.ChangeAt Go.RowKit Go.Proofs.Ytoajoklpbfehiaa.Open Go.Proofs.YtoajoklpbfehiaaW.PrintWords Go.Proofs.Ytoajoklpbfehiaa.GAll
set_option linter.unusedVariables false
set_option linter.unusedSimpArgs false
theorem own : ownKnob Try.prog.godebug = none := by kernel_rfl
theorem laidOut : laidOutB Try.prog = true := by kernel_rfl
set_option maxRecDepth 100000 in
theorem lifted (os : Os) (started : os.Started) (H : Type) (enc : TypeId × Value → H) :
    ReturnsInHanded {} Try.checked os 5 .any (Rows.compsJoinsSpec.pre6 enc Try.prog Try.f5 Rows.compsJoinsRow.domain false) (Rows.compsJoinsSpec.post enc Try.prog Try.f5 false true false false) := by
  refine returnsInHanded_of_change_sized (C := Try.checked) own started (by kernel_rfl) Try.func5
    (ChangeSpec.witness6 (enc := enc) (C := Try.checked) false ⟨#[], #[.int .i64 0, .slice none 0 0], []⟩ 8 (by kernel_rfl) (by kernel_rfl) (by kernel_rfl) (by kernel_rfl)) ?_
  intro W base args ds gs before hval0 hW hcnd hsz0 _
  have hsz : (DataW.weightsEach Try.prog (Try.f5.params.toList ++ Rows.compsJoinsSpec.plain.varTypes Try.prog) (ds ++ gs)).all (· ≤ reachBytes) = true := hsz0
  have hval : ∀ (j : Nat) t v, Try.f5.params[j]? = some t → args[j]? = some v → Value.okWide Try.prog W .any base t v := hval0
  have hW' := hW
  obtain ⟨p, q, hA0, hV, rfl, hfz, hnd⟩ := hW
  have hA : DataW.TrodAll enc Try.prog W 0 (fun _ => true) true Try.f5.params.toList args.toList ds p := hA0
  rw [Try.params5] at hA hval hsz
  obtain ⟨v0, vs0, d0, ds0, p0, q0, hargs, rfl, rfl, h0, r0⟩ := trodAll_cons hA
  obtain ⟨v1, vs1, d1, ds1, p1, q1, rfl, rfl, rfl, h1, r1⟩ := trodAll_cons r0
  obtain ⟨rfl, rfl, rfl⟩ := trodAll_nil r1
  obtain rfl : args = #[v0, v1] := by cases args; simp_all
  obtain ⟨rfl, rfl⟩ := trodVars_none hV
  have k0 := h0
  have lt0 : ∀ x ∈ p0, x.block < W.heap.size := by obtain ⟨m, hm⟩ := k0; exact DataW.trod_lt m _ _ _ hm
  obtain ⟨x0, K0, g0⟩ := open_arg (opens_int Try.underlying3) h0 (weight_at hsz (j := 0) rfl rfl)
  obtain ⟨y0, rfl⟩ := okWide_int Try.underlying3 (hval 0 3 v0 rfl rfl)
  have e0 : [Value.int .i64 y0] = [.int .i64 x0] := K0
  obtain rfl : y0 = x0 := by simpa using e0
  have k1 := h1
  have lt1 : ∀ x ∈ p1, x.block < W.heap.size := by obtain ⟨m, hm⟩ := k1; exact DataW.trod_lt m _ _ _ hm
  obtain ⟨x1, K1, g1⟩ := open_arg (opens_slice (e := 45) (d := k45) (B := 16) Try.underlying41 (by kernel_rfl) (by kernel_rfl) (opens_iso (d := (Kd.pair (Kd.int .i64) (Kd.int .i64))) (fun x => (⟨x.1, x.2⟩ : S45)) (fun _ => rfl) (opens_two Try.underlying45 (opens_int Try.underlying3) (opens_int Try.underlying3) (by kernel_rfl) (by kernel_rfl) (by kernel_rfl) (by kernel_rfl) (by kernel_rfl))) z45) h1 (weight_at hsz (j := 1) rfl rfl)
  obtain ⟨A1, len1, c1, rfl⟩ := okWide_slice Try.underlying41 (hval 1 41 v1 rfl rfl)
  have K1' : (Kd.slice 45 k45).K W x1 [.slice A1 len1 c1] := K1
  obtain ⟨rfl, hc1, hr1⟩ := of_slice K1'
  clear hA0 hval0 hsz0 hsz
  refine (PureX.CompsJoins y0 A1 c1 x1 W hr1 hc1 g0 g1).mono fun e W' ⟨he, bel⟩ => ?_
  subst he
  exact ⟨_, rfl, _, _, _, [], _, [], hW', trodAll_mk1 (shut_bool Try.underlying4 _), (trodAll_cons_mk (Below.trod laidOut (by kernel_rfl) (of_decide_eq_true (by kernel_rfl)) k0 bel lt0) (trodAll_cons_mk (Below.trod laidOut (by kernel_rfl) (of_decide_eq_true (by kernel_rfl)) k1 bel lt1) trodAll_mk0)), rfl, bel.frame _, fun h => by cases h⟩
theorem over : Rows.compsJoinsRow.holds Try.pinned (OpenSpec.ofChange Rows.compsJoinsSpec) :=
  OpenClaim.holds_of_wide 5 Try.f5 rfl rfl rfl rfl rfl rfl rfl ⟨rfl, rfl, rfl, rfl, rfl⟩ rfl rfl rfl rfl rfl (by kernel_rfl) Try.func5 (by kernel_rfl)
    (of_decide_eq_true (by kernel_rfl)) (by unfold Func.isWrapper; first | (rw [if_pos (by decide +kernel)]; kernel_rfl) | (rw [if_neg (by decide +kernel)]; exact ⟨rfl, rfl⟩))
    (fun os started H enc _ => lifted os started H enc)
theorem proved : Rows.CompsJoinsSaid := over
#print axioms proved
end Go.Proofs.Ytoajoklpbfehiaa.compsJoins
namespace Go.Proofs.Ytoajoklpbfehiaa
/-- The row, under a short name, for the claim. -/
theorem compsJoins_holds : Rows.CompsJoinsSaid := compsJoins.proved
end Go.Proofs.Ytoajoklpbfehiaa
