/- DERIVED. The law CompsLimits, walked. -/
import Derived.Test.YtoajoklpbfehiaaGCompsLimitsx
import Derived.Test.YtoajoklpbfehiaaSetsNil
import Derived.Test.YtoajoklpbfehiaaOpen
namespace Go.Proofs.Ytoajoklpbfehiaa.PureX
open Go.RowKit Go.Proofs.YtoajoklpbfehiaaW.PrintWords Go.Proofs.YtoajoklpbfehiaaW.PrintLast Go.Proofs.YtoajoklpbfehiaaW.PrintMore Go.Proofs.Ytoajoklpbfehiaa.GCompsLimits
set_option linter.unusedVariables false
set_option linter.unusedSimpArgs false
theorem range_sets (n : Nat) : Sets.sets (List.range n) = n := Sets.sets_range n
theorem range_least {n i : Nat} (h : i < n) : Sets.leastOf (List.range n) (i : Int) = (i : Int) := by
  unfold Sets.leastOf
  rw [if_pos (Sets.ok_of (by simpa using h)), Int.toNat_natCast, Sets.range_get h]
theorem range_none {n i : Nat} (h : n ≤ i) : Sets.leastOf (List.range n) (i : Int) = -1 := by
  unfold Sets.leastOf Sets.ok
  rw [if_neg (by simp; omega)]
set_option maxHeartbeats 1000000 in
theorem CompsLimits (w : World) :
    Calls Try.prog 3 #[] w fun e w' => e = .returned (.bool true) ∧ Below w.heap.size w w' := by
  obtain ⟨M, hM⟩ : ∃ M : Nat, M = 1048576 := ⟨_, rfl⟩
  have s1 := range_sets M
  have l1 := range_least (n := M) (i := 1048575) (by omega)
  have l2 := range_none (n := M) (i := 1048576) (by omega)
  have s2 := range_sets 0
  have S1 := Aside0.mk s1
  have S2 := Aside0.mk s2
  have L1 := Aside0.mk l1
  have L2 := Aside0.mk l2
  have HM := Aside0.mk hM
  clear s1 s2 l1 l2 hM
  go_enter Try.func3, Try.ntmps3
  go_wp2_with fail
  refine (show Calls Try.prog 10 #[.int .i64 1048576] _ _ from by have h := Sets.new_yes M w (by rw [HM.out]; exact Nat.le_refl _); rw [show ((M : Nat) : Int) = 1048576 from by rw [HM.out]; rfl] at h; exact h).mono ?_
  rintro e w1 ⟨p, bP, bS, rfl, hp1, hp2, hp3, hat, hb⟩
  obtain ⟨P1, S1', H1⟩ := hat
  have HP : Aside0 (w.heap.size ≤ p ∧ w.heap.size ≤ bP ∧ w.heap.size ≤ bS) := ⟨hp1, hp2, hp3⟩
  have HB := Aside0.mk hb
  have HA := Aside0.mk H1
  clear hp1 hp2 hp3 hb H1
  go_wp2_with fail
  refine (Sets.new_no _ _ (by omega)).mono ?_
  rintro e w2 ⟨rfl, rfl⟩
  go_wp2_with fail
  refine (Sets.new_no _ _ (by omega)).mono ?_
  rintro e w3 ⟨rfl, rfl⟩
  go_wp2_with fail
  refine (Sets.new_yes 0 _ (by omega)).mono ?_
  rintro e w4 ⟨p4, bP4, bS4, rfl, hp1, hp2, hp3, hat, hb⟩
  obtain ⟨P4, S4', H4⟩ := hat
  have HB4 := Aside0.mk (HB.out.trans (hb.mono HB.out.size))
  have HA4 := Aside0.mk H4
  have HA2 := Aside0.mk (HA.out.all hb)
  have HQ : Aside0 (p < p4 ∧ p < bP4 ∧ p < bS4 ∧ bP < p4 ∧ bP < bP4 ∧ bP < bS4 ∧ bS < p4 ∧ bS < bP4 ∧ bS < bS4) := ⟨by have := Sets.blk_lt HA.out.obj; have := Sets.blk_lt HA.out.par; have := Sets.blk_lt HA.out.siz; omega⟩
  clear hp1 hp2 hp3 hb H4 HB HA
  go_wp2_with fail
  refine (tangramlaw05_fixed.calls true _ rfl).mono ?_
  rintro e w5 ⟨rfl, hb⟩
  have HB5 := Aside0.mk (HB4.out.trans (hb.mono HB4.out.size))
  have HA5 := Aside0.mk (HA4.out.all hb)
  have HA3 := Aside0.mk (HA2.out.all hb)
  clear hb HB4 HA4 HA2
  go_wp2_with fail
  refine (Sets.count_calls p bP bS _ _ _ _ HA3.out).mono ?_
  rw [S1.out, show ((M : Nat) : Int) = 1048576 from by rw [HM.out]; rfl]
  rintro e w6 ⟨rfl, rfl⟩
  go_wp2_with fail
  have l1 := Sets.least_calls p bP bS _ _ _ (((1048575 : Nat) : Int)) _ HA3.out
  rw [L1.out] at l1
  refine l1.mono ?_
  clear l1
  rintro e w7 ⟨rfl, hN⟩
  obtain ⟨P7, S7, H7⟩ := hN.1
  have HB7 := Aside0.mk (hN.below HB5.out HB5.out.size HP.out)
  have HA7 := Aside0.mk H7
  have HF7 := Aside0.mk hN.2
  clear hN H7 HA3 HB5
  go_wp2_with fail
  have l2 := Sets.least_calls p bP bS _ _ _ (((1048576 : Nat) : Int)) _ HA7.out
  rw [L2.out] at l2
  refine l2.mono ?_
  clear l2
  rintro e w8 ⟨rfl, hN⟩
  have HB8 := Aside0.mk (hN.below HB7.out HB7.out.size HP.out)
  have HF8 := Aside0.mk (HF7.out.trans hN.2)
  have HA8 : Aside0 (Sets.AtPS w8 p4 bP4 bS4 (List.range 0) P4 S4') := ⟨HF8.out.blk HA5.out.obj (by have := HQ.out; unfold Sets.Own; omega), HF8.out.blk HA5.out.par (by have := HQ.out; unfold Sets.Own; omega), HF8.out.blk HA5.out.siz (by have := HQ.out; unfold Sets.Own; omega), HA5.out.ne1, HA5.out.ne2, HA5.out.ne3, HA5.out.small, HA5.out.rep, HA5.out.sized⟩
  clear hN HA7 HB7 HF7 HF8 HA5
  go_wp2_with fail
  refine (Sets.count_calls p4 bP4 bS4 _ _ _ _ HA8.out).mono ?_
  rw [S2.out]
  rintro e w9 ⟨rfl, rfl⟩
  go_wp2
  go_ret
  exact ⟨rfl, HB8.out⟩
end Go.Proofs.Ytoajoklpbfehiaa.PureX
