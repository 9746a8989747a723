/- DERIVED. The walk of the laws' own fixed example (tangramlaw05.fixed), over contracts of Valid and SameInts. -/
import Derived.Test.YtoajoklpbfehiaaSetsOf
namespace Go.Proofs.Ytoajoklpbfehiaa.Sets
open Go.RowKit Go.Proofs.YtoajoklpbfehiaaW.PrintWords Go.Proofs.YtoajoklpbfehiaaW.PrintLast Go.Proofs.YtoajoklpbfehiaaW.PrintMore
set_option linter.unusedVariables false
set_option linter.unusedSimpArgs false

theorem C_le {α : Type} {d : Kd α} {w : World} {A : Option Addr} {n : Nat} {xs : List α} (h : d.C w A n xs) : n ≤ 9223372036854775807 := by
  obtain ⟨_, h2, _⟩ := h
  exact h2
theorem row_own {w : World} {b base : Nat} {l : List Nat} {ok : Nat → Prop} (h : RowAt w b l) (hb : base ≤ b) (hl : l.length ≤ 9223372036854775807) (hok : ok b) : Kd.R (Kd.int .i64) 3 w base ok (.slice (some ⟨b, 0, none⟩) l.length l.length) (l.map fun (x : Nat) => (x : Int)) := by
  refine Kd.R_of_own (enc := Value.int .i64) ⟨by simp [encs], .inr ⟨b, l.length, nv l, by simp, hb, h, by simp, by unfold maxLen; exact hl, by simp [nv], ?_⟩⟩ (fun k hk => ?_)
  · rw [List.length_map, Nat.mul_one]; simp [nv, encs, List.take_of_length_le, Function.comp_def]
  · have : b = k := by simpa [Value.ownBlock] using hk
    exact this ▸ hok
theorem Now.ex {p bP bS : Nat} {m : List Nat} {w w' : World} (h : Now p bP bS m w w') : ∃ P S, AtPS w' p bP bS m P S := h.1
theorem Now.row {p bP bS : Nat} {m : List Nat} {w w' : World} (h : Now p bP bS m w w') {b : Nat} {l : List Nat} (hr : RowAt w b l) (hb : ¬ Own p bP bS b) : RowAt w' b l := h.2.blk hr hb
theorem Now.below {p bP bS B : Nat} {m : List Nat} {w0 w w' : World} (h : Now p bP bS m w w') (h0 : Below B w0 w) (hB : B ≤ w.heap.size) (h1 : B ≤ p ∧ B ≤ bP ∧ B ≤ bS) : Below B w0 w' :=
  h0.trans (h.2.below hB (fun k hk => by unfold Own at hk; omega))
theorem AtPS.below {w w' : World} {p bP bS B : Nat} {m P S : List Nat} (h : AtPS w p bP bS m P S) (hb : Below B w w') (h1 : p < B ∧ bP < B ∧ bS < B) : AtPS w' p bP bS m P S :=
  ⟨(hb.block p h1.1).trans h.obj, (hb.block bP h1.2.1).trans h.par, (hb.block bS h1.2.2).trans h.siz, h.ne1, h.ne2, h.ne3, h.small, h.rep, h.sized⟩
theorem AtPS.all {w w' : World} {p bP bS : Nat} {m P S : List Nat} (h : AtPS w p bP bS m P S) (hb : Below w.heap.size w w') : AtPS w' p bP bS m P S := h.below hb ⟨blk_lt h.obj, blk_lt h.par, blk_lt h.siz⟩
theorem AtPS.alloc {w : World} {p bP bS : Nat} {m P S : List Nat} (h : AtPS w p bP bS m P S) (o : Obj) : AtPS (w.alloc o) p bP bS m P S := h.all ((Below.refl _ _).alloc (Nat.le_refl _) _)

def FixValid : Prop := ∀ (b : Nat) (W : World), W.cell? ⟨b, 0, none⟩ = some (.int .i64 0) → W.cell? ⟨b, 1, none⟩ = some (.int .i64 2) →
  Calls Try.prog 34 #[.agg #[.int .i64 3, .slice (some ⟨b, 0, none⟩) 1 1]] W fun e w' => e = .returned (.bool true) ∧ Below W.heap.size W w'
def FixSame : Prop := ∀ (b c : Nat) (W : World), RowAt W b [0, 1, 0] → RowAt W c [0, 1, 0] →
  Calls Try.prog 28 #[.slice (some ⟨b, 0, none⟩) 3 3, .slice (some ⟨c, 0, none⟩) 3 3] W fun e w' => e = .returned (.bool true) ∧ Drawn0 W w'

set_option maxHeartbeats 2000000 in
theorem fixed_calls (w : World) (hv : FixValid) (hs : FixSame) :
    Calls Try.prog 11 #[] w fun e w' => e = .returned (.bool true) ∧ Below w.heap.size w w' := by
  have j1 : joinOf (List.range 5) 3 1 = ([0, 1, 2, 1, 4], true) := by decide
  have j2 : joinOf [0, 1, 2, 1, 4] 1 3 = ([0, 1, 2, 1, 4], false) := by decide
  have o1 : numTo (joinAll (List.range 3) [(0, 2)]) 3 = ([0, 1, 0], 2) := by decide
  have l1 : leastOf [0, 1, 2, 1, 4] 3 = 1 := by decide
  have c1 : sets [0, 1, 2, 1, 4] = 4 := by decide
  have s1 : sizeOf [0, 1, 2, 1, 4] 1 = 2 := by decide
  have e1 : sameOf [0, 1, 2, 1, 4] 1 3 = true := by decide
  have e2 : sameOf [0, 1, 2, 1, 4] 0 1 = false := by decide
  have L1 := Aside0.mk l1
  have C1 := Aside0.mk c1
  have Z1 := Aside0.mk s1
  have E1 := Aside0.mk e1
  have E2 := Aside0.mk e2
  clear l1 c1 s1 e1 e2
  have J1 := Aside0.mk j1
  have J2 := Aside0.mk j2
  have O1 := Aside0.mk o1
  have HV := Aside0.mk hv
  have HS := Aside0.mk hs
  clear j1 j2 o1 hv hs
  go_enter Try.func11, Try.ntmps11
  go_wp2_with fail
  refine (new_yes 5 _ (by omega)).mono ?_
  rintro e w1 ⟨p, bP, bS, rfl, hp1, hp2, hp3, hat, hb⟩
  obtain ⟨P1, S1, H1⟩ := hat
  have HP : Aside0 (w.heap.size ≤ p ∧ w.heap.size ≤ bP ∧ w.heap.size ≤ bS) := ⟨hp1, hp2, hp3⟩
  have HB1 := Aside0.mk hb
  have HA1 := Aside0.mk H1
  clear hp1 hp2 hp3 hb H1
  go_wp2_with fail
  refine (join_calls p bP bS _ P1 S1 3 1 _ HA1.out).mono ?_
  rw [J1.out]
  rintro e w2 ⟨rfl, hN⟩
  obtain ⟨P2, S2, H2⟩ := hN.1
  have HB2 := Aside0.mk (hN.below HB1.out HB1.out.size HP.out)
  have HA2 := Aside0.mk H2
  clear hN H2 HA1 HB1
  go_wp2_with fail
  refine (join_calls p bP bS _ P2 S2 1 3 _ HA2.out).mono ?_
  rw [J2.out]
  rintro e w3 ⟨rfl, hN⟩
  obtain ⟨P3, S3, H3⟩ := hN.1
  have HB3 := Aside0.mk (hN.below HB2.out HB2.out.size HP.out)
  have HA3 := Aside0.mk H3
  clear hN H3 HA2 HB2
  go_wp2_with fail
  have BX := Aside0.mk (heap_last w3 (.cells #[.int .i64 0, .int .i64 2] 33 (0, 0)))
  have yes : SaysYes 3 (some ⟨w3.heap.size, 0, none⟩) [((0 : Int), (2 : Int))].length 1 (w3.alloc (.cells #[.int .i64 0, .int .i64 2] 33 (0, 0))) := fun W hW => HV.out _ _ ((blk_cell ((hW.block _ (by simp)).trans BX.out) 0).trans rfl) ((blk_cell ((hW.block _ (by simp)).trans BX.out) 1).trans rfl)
  have prs : Pairs (w3.alloc (.cells #[.int .i64 0, .int .i64 2] 33 (0, 0))) (some ⟨w3.heap.size, 0, none⟩) [((0 : Int), (2 : Int))] := by
    intro i hi
    obtain rfl : i = 0 := by simp at hi; omega
    exact ⟨_, rfl, (blk_cell BX.out 0).trans rfl, (blk_cell BX.out 1).trans rfl⟩
  refine (of_yes 3 (some ⟨w3.heap.size, 0, none⟩) 1 [((0 : Int), (2 : Int))] _ yes (by omega) prs (by simp)).mono ?_
  rw [O1.out]
  rintro e w4 ⟨bo, rfl, hbo, hrow, hb⟩
  have HB4 := Aside0.mk ((HB3.out.alloc HB3.out.size _).trans (hb.mono (by have := HB3.out.size; simp; omega)))
  have HA4 := Aside0.mk ((HA3.out.alloc _).all hb)
  have HO4 := Aside0.mk hrow
  have hp := blk_lt HA3.out.obj
  have hP := blk_lt HA3.out.par
  have hS := blk_lt HA3.out.siz
  have hno : ¬ Own p bP bS bo := by unfold Own; simp at hbo; omega
  have hge : w.heap.size ≤ bo := by have := HB3.out.size; simp at hbo; omega
  clear yes prs BX hrow hb hbo hp hP hS HA3 HB3
  go_wp2_with fail
  refine (least_calls p bP bS _ P3 S3 3 _ HA4.out).mono ?_
  rw [L1.out]
  rintro e w5 ⟨rfl, hN⟩
  obtain ⟨P5, S5, H5⟩ := hN.1
  have HB5 := Aside0.mk (hN.below HB4.out HB4.out.size HP.out)
  have HO5 := Aside0.mk (hN.row HO4.out hno)
  have HA5 := Aside0.mk H5
  clear hN H5 HA4 HB4 HO4
  go_wp2_with fail
  refine (count_calls p bP bS _ P5 S5 _ HA5.out).mono ?_
  rw [C1.out]
  rintro e w6 ⟨rfl, rfl⟩
  go_wp2_with fail
  refine (size_calls p bP bS _ P5 S5 1 _ HA5.out).mono ?_
  rw [Z1.out]
  rintro e w7 ⟨rfl, hN⟩
  obtain ⟨P7, S7, H7⟩ := hN.1
  have HB7 := Aside0.mk (hN.below HB5.out HB5.out.size HP.out)
  have HO7 := Aside0.mk (hN.row HO5.out hno)
  have HA7 := Aside0.mk H7
  clear hN H7 HA5 HB5 HO5
  go_wp2_with fail
  refine (same_calls p bP bS _ P7 S7 1 3 _ HA7.out).mono ?_
  rw [E1.out]
  rintro e w8 ⟨rfl, hN⟩
  obtain ⟨P8, S8, H8⟩ := hN.1
  have HB8 := Aside0.mk (hN.below HB7.out HB7.out.size HP.out)
  have HO8 := Aside0.mk (hN.row HO7.out hno)
  have HA8 := Aside0.mk H8
  clear hN H8 HA7 HB7 HO7
  go_wp2_with fail
  refine (same_calls p bP bS _ P8 S8 0 1 _ HA8.out).mono ?_
  rw [E2.out]
  rintro e w9 ⟨rfl, hN⟩
  have HB9 := Aside0.mk (hN.below HB8.out HB8.out.size HP.out)
  have HO9 := Aside0.mk (hN.row HO8.out hno)
  clear hN HA8 HB8 HO8
  go_wp2_with fail
  refine (HS.out bo w9.heap.size _ (heap_old HO9.out _) (heap_last _ _)).mono ?_
  rintro e w10 ⟨rfl, ⟨nd, rfl⟩⟩
  go_wp2
  go_ret
  exact ⟨rfl, pw_below_drewN (HB9.out.alloc HB9.out.size _) _⟩
end Go.Proofs.Ytoajoklpbfehiaa.Sets
