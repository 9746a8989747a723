/- DERIVED. The law CompsJoins, walked. -/
import Derived.Test.YtoajoklpbfehiaaJoins
import Derived.Test.YtoajoklpbfehiaaPair
import Derived.Test.YtoajoklpbfehiaaLists
import Derived.Test.YtoajoklpbfehiaaOpen
import Derived.Test.YtoajoklpbfehiaaGAllx3
namespace Go.Proofs.Ytoajoklpbfehiaa.PureX
open Go.RowKit Go.Proofs.YtoajoklpbfehiaaW.PrintWords Go.Proofs.YtoajoklpbfehiaaW.PrintLast Go.Proofs.YtoajoklpbfehiaaW.PrintMore Go.Proofs.Ytoajoklpbfehiaa.GAll Go.Proofs.Ytoajoklpbfehiaa.Sets
set_option linter.unusedVariables false
set_option linter.unusedSimpArgs false
abbrev PrJ := S45
theorem refnew_no (a : Int) (h : a < 0 ∨ 1048576 < a) : tangramref05_New.f 1 a = some ([], 2) := by
  unfold tangramref05_New.f
  rcases h with h | h
  · rw [if_pos h]; simp only [tangramref05_New.j0]; rfl
  · rw [if_neg (by omega), decide_eq_true (show a > 1048576 by omega)]; simp only [tangramref05_New.j0]; rfl
theorem range_ints (n : Nat) : (List.range n).map (fun (x : Nat) => (x : Int)) = ints (List.range n) := rfl

set_option maxHeartbeats 40000000 in
set_option maxRecDepth 100000 in
theorem CompsJoins (a0 : Int) (A1 : Option Addr) (c1 : Nat) (l1 : List PrJ) (w : World) (hr1 : Kd.C k45 w A1 l1.length l1) (hc1 : l1.length ≤ c1)
    (g0 : Open.I64 a0) (g1 : l1.length * 16 ≤ 140737488351232 ∧ ∀ x ∈ l1, Open.I64 x.f0 ∧ Open.I64 x.f1) :
    Calls Try.prog 5 #[.int .i64 a0, .slice A1 l1.length c1] w fun e w' => e = .returned (.bool true) ∧ Below w.heap.size w w' := by
  have HR1 := Aside0.mk (pair_pairs hr1)
  have hn1 : l1.length ≤ 8796093021952 := by omega
  obtain ⟨es, hes⟩ : ∃ es, es = prs l1 := ⟨_, rfl⟩
  have hlen : l1.length = es.length := by rw [hes, prs_length]
  rw [← hes] at HR1
  rw [hlen] at hn1 ⊢
  clear hr1 g1 hes hlen hc1 l1
  go_enter Try.func5, Try.ntmps5
  go_wp2_with fail
  refine (tangramlaw05_fixed.calls true _ rfl).mono ?_
  rintro e w1 ⟨rfl, hb⟩
  have HB1 := Aside0.mk hb
  clear hb
  by_cases c3 : a0 > 3000
  · have c3b : decide (3000 < a0) = true := decide_eq_true c3
    by_cases c4 : a0 ≤ 1048576
    · have c4b : decide (a0 ≤ 1048576) = true := decide_eq_true c4
      go_wp2_with fail
      repeat (go_quiet (fail); try go_wp2_with fail)
      obtain ⟨n, hn'⟩ : ∃ n : Nat, a0 % 3000 = (n : Int) := ⟨(a0 % 3000).toNat, by omega⟩
      have hn : n ≤ 3000 := by omega
      rw [hn']
      refine (new_yes n _ (by omega)).mono ?_
      rintro e w2 ⟨p, bP, bS, rfl, hp1, hp2, hp3, hA, hb⟩
      have HM0 : Aside0 (Mid w w2 (.pointer (some ⟨p, 0, none⟩)) (Own p bP bS) (List.range n) [] (.slice none 0 0)) := ⟨.inl ⟨p, bP, bS, rfl, rfl, hA⟩, Kd.R_nil _ _ _ _ _, HB1.out.trans (hb.mono HB1.out.size), fun k hk => by have := HB1.out.size; unfold Own at hk; omega⟩
      have HPT : Aside0 (∃ N E, Part N E (List.range n) ∧ N ≤ 3000) := ⟨n, _, Part.range n, hn⟩
      clear hp1 hp2 hp3 hA hb HB1
      go_wp2_with fail
      obtain ⟨kn, hkn⟩ := PureR.new_ref n (by omega)
      refine (tangramref05_New.calls kn (n : Int) _ 0 w2 hkn).mono ?_
      rintro e w3 ⟨vm, rfl, hR, hb⟩
      have HM : Aside0 (Mid w w3 (.pointer (some ⟨p, 0, none⟩)) (Own p bP bS) (List.range n) (List.range n) vm) := ⟨by
        have h := HM0.out.below hb
        have hz := HM0.out.old.size
        exact ⟨h.sx, ⟨fun k hk e => by have h1 := (own_lt (Kd.own_of_R hR) hk).1; have h2 := HM0.out.sx.hi k e; omega, (Kd.R_lower hR hz).2⟩, h.old, h.lo⟩⟩
      clear HM0 hR hb hkn
      go_wp2_with fail
      repeat (go_quiet (fail); try go_wp2_with fail)
      obtain ⟨own, hown⟩ : ∃ own, own = Own p bP bS := ⟨_, rfl⟩
      obtain ⟨m0, hm0⟩ : ∃ m0, m0 = List.range n := ⟨_, rfl⟩
      rw [← hown, ← hm0] at HM
      rw [← hm0] at HPT
      clear hown hm0
      generalize Value.pointer (some ⟨p, 0, none⟩) = pv at HM ⊢
      go_loopw [7, 45] (fun vm v wr => ∃ (i : Nat) (m : List Nat), v = .int .i64 (i : Int) ∧ i ≤ es.length ∧ Aside0 (∃ N E, Part N E m ∧ N ≤ 3000) ∧ Aside0 (Mid w wr pv own m m vm)) (fun _ v _ => es.length - (intOf v).toNat)
      case atStart => exact ⟨0, m0, rfl, by omega, HPT, HM⟩
      case round =>
        clear HM HPT
        rename_i vm _
        obtain ⟨i, m, rfl, hi, HPT, HM⟩ := hrel
        by_cases hlt : i < es.length
        · obtain ⟨ad, eA, hx1, hx2⟩ := (HR1.out.below HM.out.old) i hlt
          subst eA
          obtain ⟨x, hx⟩ : ∃ x, x = (pe es i).1 := ⟨_, rfl⟩
          obtain ⟨y, hy⟩ : ∃ y, y = (pe es i).2 := ⟨_, rfl⟩
          rw [← hx] at hx1
          rw [← hy] at hx2
          clear hx hy
          have hml : m.length ≤ 3000 := by obtain ⟨N, E, h1, h2⟩ := HPT.out; rw [h1.len]; exact h2
          go_wp2_with fail
          have HM1 := Aside0.mk (HM.out.alloc (.cells #[.int .i64 x, .int .i64 y] 45 (0, 0)))
          refine (HM1.out.rjoin (by omega) x y).mono ?_
          rintro e w5 ⟨vm5, rfl, h5, hK⟩
          have X5 : Aside0 (w5.heap[wr.heap.size]? = some (.cells #[.int .i64 x, .int .i64 y] 45 (0, 0))) := ⟨(hK.2 _ (by simp) (fun e => by have := HM.out.vm_lt e; omega)).trans (heap_last _ _)⟩
          have HNO : Aside0 (¬ own wr.heap.size) := ⟨fun e => by have := HM.out.sx.hi _ e; omega⟩
          obtain ⟨b, hb⟩ : ∃ b, b = wr.heap.size := ⟨_, rfl⟩
          rw [← hb] at X5 HNO
          have HPT2 : Aside0 (∃ N E, Part N E (joinOf m x y).1 ∧ N ≤ 3000) := ⟨by obtain ⟨N, E, h1, h2⟩ := HPT.out; exact ⟨N, _, joinOf_part h1 x y, h2⟩⟩
          have hml2 : (joinOf m x y).1.length ≤ 3000 := by rw [joinOf_length]; exact hml
          have HM6 := Aside0.mk h5.drew
          obtain ⟨A5, c5, rfl, hc5, _⟩ := h5.stay
          obtain ⟨m', hm'⟩ : ∃ m', m' = (joinOf m x y).1 := ⟨_, rfl⟩
          rw [← hm'] at HM6 HPT2 hml2 ⊢
          clear h5 hK HM1 HM HPT hx1 hx2 hml hc5
          obtain ⟨kk, xs, hxl, hkk⟩ := PureR.few_ref (ints m').length
          have hxl2 : (xs ++ [x, y]).length ≤ 100 := by simp; omega
          have HKK := Aside0.mk hkk
          clear hkk
          have C0 : Aside0 (w5.drew.cell? ⟨b, 0, none⟩ = some (.int .i64 x)) := ⟨(blk_cell X5.out 0).trans rfl⟩
          have C1 : Aside0 (w5.drew.cell? ⟨b, 1, none⟩ = some (.int .i64 y)) := ⟨(blk_cell X5.out 1).trans rfl⟩
          rw [← hb]
          clear X5 hb
          have HJ := Aside0.mk hm'
          clear hm'
          go_wp2_with fail
          refine start_ (n := 23) (S := fun w' => w'.cell? ⟨b, 0, none⟩ = some (.int .i64 x) ∧ w'.cell? ⟨b, 1, none⟩ = some (.int .i64 y)) (ds := []) #[false, false, false, false, false, false, false, false, false, false, false, false, false, false, false, false, false, false, false, false, false, false, false] (by kernel_rfl) rfl rfl ⟨C0.out, C1.out⟩ (fun hHeld => ?_)
          refine pure_ (i := 0) (N := some 59) (v := ?_) (a' := ?_) #[true, false, false, false, false, false, false, false, false, false, false, false, false, false, false, false, false, false, false, false, false, false, false] rfl rfl (by kernel_rfl) (fun _ _ _ h => h) (Or.inl ⟨by rfl, ?_⟩) ?_ ?_
          rotate_left
          · intro w'
            go_simp
            with_reducible rfl
          rotate_left
          · simp only [Act.put, List.setIfInBounds_toArray, List.set_cons_zero, List.set_cons_succ, i64_w, i32_w]
            rfl
          refine pure_ (i := 1) (N := some 60) (v := ?_) (a' := ?_) #[true, true, false, false, false, false, false, false, false, false, false, false, false, false, false, false, false, false, false, false, false, false, false] rfl rfl (by kernel_rfl) (fun _ _ _ h => h) (Or.inl ⟨by rfl, ?_⟩) ?_ ?_
          rotate_left
          · intro w'
            go_simp
            with_reducible rfl
          rotate_left
          · simp only [Act.put, List.setIfInBounds_toArray, List.set_cons_zero, List.set_cons_succ, i64_w, i32_w]
            rfl
          refine pure_ (i := 3) (N := some 62) (v := ?_) (a' := ?_) #[true, true, false, true, false, false, false, false, false, false, false, false, false, false, false, false, false, false, false, false, false, false, false] rfl rfl (by kernel_rfl) (fun _ _ _ h => h) (Or.inl ⟨by rfl, ?_⟩) ?_ ?_
          rotate_left
          · intro w'
            go_simp
            with_reducible rfl
          rotate_left
          · simp only [Act.put, List.setIfInBounds_toArray, List.set_cons_zero, List.set_cons_succ, i64_w, i32_w]
            rfl
          refine pure_ (i := 6) (N := some 65) (v := ?_) (a' := ?_) #[true, true, false, true, false, false, true, false, false, false, false, false, false, false, false, false, false, false, false, false, false, false, false] rfl rfl (by kernel_rfl) (fun _ _ _ h => h) (Or.inl ⟨by rfl, ?_⟩) ?_ ?_
          rotate_left
          · intro w'
            go_simp
            with_reducible rfl
          rotate_left
          · simp only [Act.put, List.setIfInBounds_toArray, List.set_cons_zero, List.set_cons_succ, i64_w, i32_w]
            rfl
          refine take_ (i := 2) (N := some 61) (v := ?_) (a' := ?_) #[true, true, true, true, false, false, true, false, false, false, false, false, false, false, false, false, false, false, false, false, false, false, false] rfl rfl (by kernel_rfl) (fun _ _ _ h => h) (Or.inl ⟨by rfl, ?_⟩) hHeld ?_ ?_
          rotate_left
          · rintro w' ⟨s0, s1⟩
            go_simp
            with_reducible rfl
          rotate_left
          · simp only [Act.put, List.setIfInBounds_toArray, List.set_cons_zero, List.set_cons_succ, i64_w, i32_w]
            rfl
          refine take_ (i := 4) (N := some 63) (v := ?_) (a' := ?_) #[true, true, true, true, true, false, true, false, false, false, false, false, false, false, false, false, false, false, false, false, false, false, false] rfl rfl (by kernel_rfl) (fun _ _ _ h => h) (Or.inl ⟨by rfl, ?_⟩) hHeld ?_ ?_
          rotate_left
          · rintro w' ⟨s0, s1⟩
            go_simp
            with_reducible rfl
          rotate_left
          · simp only [Act.put, List.setIfInBounds_toArray, List.set_cons_zero, List.set_cons_succ, i64_w, i32_w]
            rfl
          refine one_ (i := 5) (N := some 64) #[true, true, true, true, true, true, true, false, false, false, false, false, false, false, false, false, false, false, false, false, false, false, false] rfl rfl (by kernel_rfl) (by decide) (fun K hK => ?_)
          refine goes_ Try.func17 (by kernel_rfl) rfl #[pv, .int .i64 x, .int .i64 y] (by rfl) rfl rfl (by simp only [List.map_toArray, List.map_cons, List.map_nil]; rfl) ?_
          with_reducible refine (HM6.out.join x y).mono ?_
          rintro e w7 ⟨rfl, hM7, hF7⟩
          refine ⟨_, rfl, ?_⟩
          rw [← HJ.out] at hM7
          have HM7 := Aside0.mk hM7
          have D0 := Aside0.mk (hF7.cell C0.out HNO.out)
          have D1 := Aside0.mk (hF7.cell C1.out HNO.out)
          clear hM7 hF7 HM6 C0 C1
          refine hK.out _ _ ⟨D0.out, D1.out⟩ (fun hHeld => ?_)
          clear hK K
          refine norm_ (a' := ?_) ?_ ?_
          rotate_left
          · show Act.put _ (some 64) _ = _
            simp only [Act.put, List.setIfInBounds_toArray, List.set_cons_zero, List.set_cons_succ, i64_w, i32_w]
            rfl
          refine pure_ (i := 7) (N := some 66) (v := ?_) (a' := ?_) #[true, true, true, true, true, true, true, true, false, false, false, false, false, false, false, false, false, false, false, false, false, false, false] rfl rfl (by kernel_rfl) (fun _ _ _ h => h) (Or.inl ⟨by rfl, ?_⟩) ?_ ?_
          rotate_left
          · intro w'
            go_simp
            with_reducible rfl
          rotate_left
          · simp only [Act.put, List.setIfInBounds_toArray, List.set_cons_zero, List.set_cons_succ, i64_w, i32_w]
            rfl
          refine pure_ (i := 8) (N := some 67) (v := ?_) (a' := ?_) #[true, true, true, true, true, true, true, true, true, false, false, false, false, false, false, false, false, false, false, false, false, false, false] rfl rfl (by kernel_rfl) (fun _ _ _ h => h) (Or.inl ⟨by rfl, ?_⟩) ?_ ?_
          rotate_left
          · intro w'
            go_simp
            with_reducible rfl
          rotate_left
          · simp only [Act.put, List.setIfInBounds_toArray, List.set_cons_zero, List.set_cons_succ, i64_w, i32_w]
            rfl
          refine pure_ (i := 9) (N := some 68) (v := ?_) (a' := ?_) #[true, true, true, true, true, true, true, true, true, true, false, false, false, false, false, false, false, false, false, false, false, false, false] rfl rfl (by kernel_rfl) (fun _ _ _ h => h) (Or.inl ⟨by rfl, ?_⟩) ?_ ?_
          rotate_left
          · intro w'
            go_simp
            with_reducible rfl
          rotate_left
          · simp only [Act.put, List.setIfInBounds_toArray, List.set_cons_zero, List.set_cons_succ, i64_w, i32_w]
            rfl
          refine pure_ (i := 10) (N := some 69) (v := ?_) (a' := ?_) #[true, true, true, true, true, true, true, true, true, true, true, false, false, false, false, false, false, false, false, false, false, false, false] rfl rfl (by kernel_rfl) (fun _ _ _ h => h) (Or.inl ⟨by rfl, ?_⟩) ?_ ?_
          rotate_left
          · intro w'
            go_simp
            with_reducible rfl
          rotate_left
          · simp only [Act.put, List.setIfInBounds_toArray, List.set_cons_zero, List.set_cons_succ, i64_w, i32_w]
            rfl
          refine pure_ (i := 11) (N := some 70) (v := ?_) (a' := ?_) #[true, true, true, true, true, true, true, true, true, true, true, true, false, false, false, false, false, false, false, false, false, false, false] rfl rfl (by kernel_rfl) (fun _ _ _ h => h) (Or.inl ⟨by rfl, ?_⟩) ?_ ?_
          rotate_left
          · intro w'
            go_simp
            with_reducible rfl
          rotate_left
          · simp only [Act.put, List.setIfInBounds_toArray, List.set_cons_zero, List.set_cons_succ, i64_w, i32_w]
            rfl
          refine pure_ (i := 12) (N := some 71) (v := ?_) (a' := ?_) #[true, true, true, true, true, true, true, true, true, true, true, true, true, false, false, false, false, false, false, false, false, false, false] rfl rfl (by kernel_rfl) (fun _ _ _ h => h) (Or.inl ⟨by rfl, ?_⟩) ?_ ?_
          rotate_left
          · intro w'
            go_simp
            with_reducible rfl
          rotate_left
          · simp only [Act.put, List.setIfInBounds_toArray, List.set_cons_zero, List.set_cons_succ, i64_w, i32_w]
            rfl
          refine pure_ (i := 14) (N := some 73) (v := ?_) (a' := ?_) #[true, true, true, true, true, true, true, true, true, true, true, true, true, false, true, false, false, false, false, false, false, false, false] rfl rfl (by kernel_rfl) (fun _ _ _ h => h) (Or.inl ⟨by rfl, ?_⟩) ?_ ?_
          rotate_left
          · intro w'
            go_simp
            with_reducible rfl
          rotate_left
          · simp only [Act.put, List.setIfInBounds_toArray, List.set_cons_zero, List.set_cons_succ, i64_w, i32_w]
            rfl
          refine pure_ (i := 16) (N := some 75) (v := ?_) (a' := ?_) #[true, true, true, true, true, true, true, true, true, true, true, true, true, false, true, false, true, false, false, false, false, false, false] rfl rfl (by kernel_rfl) (fun _ _ _ h => h) (Or.inl ⟨by rfl, ?_⟩) ?_ ?_
          rotate_left
          · intro w'
            go_simp
            with_reducible rfl
          rotate_left
          · simp only [Act.put, List.setIfInBounds_toArray, List.set_cons_zero, List.set_cons_succ, i64_w, i32_w]
            rfl
          refine take_ (i := 15) (N := some 74) (v := ?_) (a' := ?_) #[true, true, true, true, true, true, true, true, true, true, true, true, true, false, true, true, true, false, false, false, false, false, false] rfl rfl (by kernel_rfl) (fun _ _ _ h => h) (Or.inl ⟨by rfl, ?_⟩) hHeld ?_ ?_
          rotate_left
          · rintro w' ⟨s0, s1⟩
            go_simp
            with_reducible rfl
          rotate_left
          · simp only [Act.put, List.setIfInBounds_toArray, List.set_cons_zero, List.set_cons_succ, i64_w, i32_w]
            rfl
          refine take_ (i := 17) (N := some 76) (v := ?_) (a' := ?_) #[true, true, true, true, true, true, true, true, true, true, true, true, true, false, true, true, true, true, false, false, false, false, false] rfl rfl (by kernel_rfl) (fun _ _ _ h => h) (Or.inl ⟨by rfl, ?_⟩) hHeld ?_ ?_
          rotate_left
          · rintro w' ⟨s0, s1⟩
            go_simp
            with_reducible rfl
          rotate_left
          · simp only [Act.put, List.setIfInBounds_toArray, List.set_cons_zero, List.set_cons_succ, i64_w, i32_w]
            rfl
          refine join_ (σ := Value × Nat) 4 #[true, true, true, true, true, true, true, true, true, true, true, true, true, true, true, true, true, true, true, false, false, false, false] (fun s => [(72, s.1), (77, .slice (some ⟨s.2, 0, none⟩) 2 2)]) (fun s w' => Fk w7 x y xs s w') ?_ ?_
          rotate_left
          · intro hCont
            refine two_ (i := 13) (j := 18) (Ni := some 72) (Nj := some 77) #[true, true, true, true, true, true, true, true, true, true, true, true, true, true, true, true, true, true, false, false, false, false, false] #[true, true, true, true, true, true, true, true, true, true, true, true, true, false, true, true, true, true, true, false, false, false, false] rfl rfl rfl rfl (by kernel_rfl) (by decide) (by decide) (fun K hK => ?_) (fun K hK => ?_)
            · skip
              refine goes_ Try.func21 (by kernel_rfl) rfl #[.int .i64 ((ints m').length : Int)] (by rfl) rfl rfl (by simp only [List.map_toArray, List.map_cons, List.map_nil]; rfl) ?_
              with_reducible refine (tangramlaw05_few.calls kk _ xs _ HKK.out).mono ?_
              rintro e w8 ⟨v8, rfl, hR8, hb8⟩
              refine ⟨_, rfl, ?_⟩
              refine hK.out _ _ ⟨(hb8.cell (cell_block hHeld.1)).trans hHeld.1, (hb8.cell (cell_block hHeld.2)).trans hHeld.2⟩ (fun hHeld => ?_)
              clear hK K
              refine norm_ (a' := ?_) ?_ ?_
              rotate_left
              · show Act.put _ (some 72) _ = _
                simp only [Act.put, List.setIfInBounds_toArray, List.set_cons_zero, List.set_cons_succ, i64_w, i32_w]
                rfl
              refine one_ (i := 18) (N := some 77) #[true, true, true, true, true, true, true, true, true, true, true, true, true, true, true, true, true, true, true, false, false, false, false] rfl rfl (by kernel_rfl) (by decide) (fun K hK => ?_)
              refine value_ (w1 := ?_) (v := ?_) (by rfl) rfl ?_ ?_
              rotate_left 2
              · go_simp
                constructor
                · rfl
                · rfl
              refine hK.out _ _ ⟨(((Below.refl _ _).alloc (Nat.le_refl _) _).cell (cell_block hHeld.1)).trans hHeld.1, (((Below.refl _ _).alloc (Nat.le_refl _) _).cell (cell_block hHeld.2)).trans hHeld.2⟩ (fun hHeld => ?_)
              clear hK K
              refine norm_ (a' := ?_) ?_ ?_
              rotate_left
              · show Act.put _ (some 77) _ = _
                simp only [Act.put, List.setIfInBounds_toArray, List.set_cons_zero, List.set_cons_succ, i64_w, i32_w]
                rfl
              exact norm_ (by simp only [putAll, Act.put, List.setIfInBounds_toArray, List.set_cons_zero, List.set_cons_succ]) (hCont (v8, w8.heap.size) _ (Fk.one hR8 hb8))
            · skip
              refine value_ (w1 := ?_) (v := ?_) (by rfl) rfl ?_ ?_
              rotate_left 2
              · go_simp
                constructor
                · rfl
                · rfl
              refine hK.out _ _ ⟨(((Below.refl _ _).alloc (Nat.le_refl _) _).cell (cell_block hHeld.1)).trans hHeld.1, (((Below.refl _ _).alloc (Nat.le_refl _) _).cell (cell_block hHeld.2)).trans hHeld.2⟩ (fun hHeld => ?_)
              clear hK K
              refine norm_ (a' := ?_) ?_ ?_
              rotate_left
              · show Act.put _ (some 77) _ = _
                simp only [Act.put, List.setIfInBounds_toArray, List.set_cons_zero, List.set_cons_succ, i64_w, i32_w]
                rfl
              refine one_ (i := 13) (N := some 72) #[true, true, true, true, true, true, true, true, true, true, true, true, true, true, true, true, true, true, true, false, false, false, false] rfl rfl (by kernel_rfl) (by decide) (fun K hK => ?_)
              refine goes_ Try.func21 (by kernel_rfl) rfl #[.int .i64 ((ints m').length : Int)] (by rfl) rfl rfl (by simp only [List.map_toArray, List.map_cons, List.map_nil]; rfl) ?_
              with_reducible refine (tangramlaw05_few.calls kk _ xs _ HKK.out).mono ?_
              rintro e w8 ⟨v8, rfl, hR8, hb8⟩
              refine ⟨_, rfl, ?_⟩
              refine hK.out _ _ ⟨(hb8.cell (cell_block hHeld.1)).trans hHeld.1, (hb8.cell (cell_block hHeld.2)).trans hHeld.2⟩ (fun hHeld => ?_)
              clear hK K
              refine norm_ (a' := ?_) ?_ ?_
              rotate_left
              · show Act.put _ (some 72) _ = _
                simp only [Act.put, List.setIfInBounds_toArray, List.set_cons_zero, List.set_cons_succ, i64_w, i32_w]
                rfl
              exact norm_ (by simp only [putAll, Act.put, List.setIfInBounds_toArray, List.set_cons_zero, List.set_cons_succ]) (hCont (v8, w7.heap.size) _ (Fk.two hR8 hb8))
          rintro ⟨v9, b9⟩ w9 hF9
          have hF9 := Aside0.mk hF9
          have hHeld : w9.cell? ⟨b, 0, none⟩ = some (.int .i64 x) ∧ w9.cell? ⟨b, 1, none⟩ = some (.int .i64 y) := ⟨(hF9.out.2.2.1.cell (cell_block D0.out)).trans D0.out, (hF9.out.2.2.1.cell (cell_block D1.out)).trans D1.out⟩
          refine norm_ (a' := ?_) ?_ ?_
          rotate_left
          · simp only [putAll, Act.put, List.setIfInBounds_toArray, List.set_cons_zero, List.set_cons_succ]
            rfl
          refine one_ (i := 19) (N := some 78) #[true, true, true, true, true, true, true, true, true, true, true, true, true, true, true, true, true, true, true, true, false, false, false] rfl rfl (by kernel_rfl) (by decide) (fun K hK => ?_)
          refine Kd.R_append_rows_step (Kd.int .i64) (Rr := (Kd.int .i64).K w9) (w0 := w7) w7.heap.size (by rfl) (.tmp 72) (.tmp 77) 34 3 (.int .i64 0) 8 rfl Try.underlying34 info_int rfl (by decide) (by decide) v9 xs [x, y] (some ⟨b9, 0, none⟩) 2 2 (fun _ => True) (fun _ => False) rfl rfl (Kd.R_mono hF9.out.1 (fun _ _ => trivial)) (two_reads hF9.out.2.1) (fun _ _ h => h) (fun _ h => h.elim) (fun _ _ => trivial) hF9.out.2.2.1 hF9.out.2.2.1.size (by omega) ?_
          intro v10 w10 hR10 hb10 hg10 hat10
          obtain ⟨A10, c10, rfl, _, hst10⟩ := stay_of_R (own := own) hR10 (fun k hk _ e => by have := HM7.out.sx.hi k e; omega)
          have HS10 := Aside0.mk hst10
          have HM10 := Aside0.mk (HM7.out.below hb10)
          have E0 := Aside0.mk ((hb10.cell (cell_block D0.out)).trans D0.out)
          have E1 := Aside0.mk ((hb10.cell (cell_block D1.out)).trans D1.out)
          clear hR10 hb10 hg10 hat10 hst10 D0 D1 HM7 hF9
          refine hK.out _ _ ⟨E0.out, E1.out⟩ (fun hHeld => ?_)
          clear hK K
          refine norm_ (a' := ?_) ?_ ?_
          rotate_left
          · show Act.put _ (some 78) _ = _
            simp only [Act.put, List.setIfInBounds_toArray, List.set_cons_zero, List.set_cons_succ, i64_w, i32_w]
            rfl
          refine one_ (i := 20) (N := some 79) #[true, true, true, true, true, true, true, true, true, true, true, true, true, true, true, true, true, true, true, true, true, false, false] rfl rfl (by kernel_rfl) (by decide) (fun K hK => ?_)
          refine goes_ Try.func20 (by kernel_rfl) rfl #[pv, .slice A5 (ints m').length c5, .slice A10 (xs ++ [x, y]).length c10] (by rfl) rfl rfl (by simp only [List.map_toArray, List.map_cons, List.map_nil]; rfl) ?_
          with_reducible refine (tells_calls pv own m' A5 c5 A10 c10 (xs ++ [x, y]) w10 HM10.out.sx (by omega) HM10.out.stayed.2.2 HM10.out.stayed.2.1 HS10.out hxl2).mono ?_
          rintro e w11 ⟨rfl, hN11⟩
          refine ⟨_, rfl, ?_⟩
          have HM11 := Aside0.mk (HM10.out.now hN11)
          refine hK.out _ _ ⟨hN11.2.cell E0.out HNO.out, hN11.2.cell E1.out HNO.out⟩ (fun hHeld => ?_)
          clear hK K
          refine norm_ (a' := ?_) ?_ ?_
          rotate_left
          · show Act.put _ (some 79) _ = _
            simp only [Act.put, List.setIfInBounds_toArray, List.set_cons_zero, List.set_cons_succ, i64_w, i32_w]
            rfl
          refine pure_ (i := 21) (N := some 80) (v := ?_) (a' := ?_) #[true, true, true, true, true, true, true, true, true, true, true, true, true, true, true, true, true, true, true, true, true, true, false] rfl rfl (by kernel_rfl) (fun _ _ _ h => h) (Or.inl ⟨by rfl, ?_⟩) ?_ ?_
          rotate_left
          · intro w'
            go_simp
            with_reducible rfl
          rotate_left
          · simp only [Act.put, List.setIfInBounds_toArray, List.set_cons_zero, List.set_cons_succ, i64_w, i32_w]
            rfl
          refine pure_ (i := 22) (N := some 81) (v := ?_) (a' := ?_) #[true, true, true, true, true, true, true, true, true, true, true, true, true, true, true, true, true, true, true, true, true, true, true] rfl rfl (by kernel_rfl) (fun _ _ _ h => h) (Or.inl ⟨by rfl, ?_⟩) ?_ ?_
          rotate_left
          · intro w'
            go_simp
            with_reducible rfl
          rotate_left
          · simp only [Act.put, List.setIfInBounds_toArray, List.set_cons_zero, List.set_cons_succ, i64_w, i32_w]
            rfl
          refine done_ (by kernel_rfl) ?_
          clear HM10 HS10 E0 E1 HKK HJ HNO
          go_wp2_with fail
          go_roundw
          case rel => exact ⟨i + 1, m', by go_num, by omega, HPT2, HM11⟩
          case measure => simp [intOf]; omega
        · obtain rfl : i = es.length := by omega
          have hml : m.length ≤ 3000 := by obtain ⟨N, E, h1, h2⟩ := HPT.out; rw [h1.len]; exact h2
          obtain ⟨A5, c5, rfl, hc5, _⟩ := HM.out.stay
          clear hc5
          obtain ⟨kk, xs, hxl, hkk⟩ := PureR.few_ref (ints m).length
          have HKK := Aside0.mk hkk
          clear hkk
          go_wp2_with fail
          refine (tangramlaw05_few.calls kk _ xs _ HKK.out).mono ?_
          rintro e w8 ⟨v8, rfl, hR8, hb8⟩
          obtain ⟨A8, c8, rfl, _, hst8⟩ := stay_of_R (own := own) hR8 (fun k hk _ e => by have := HM.out.sx.hi k e; omega)
          have HS8 := Aside0.mk hst8
          have HM8 := Aside0.mk (HM.out.below hb8)
          clear hR8 hb8 hst8 HM HKK
          go_wp2_with fail
          refine (tells_calls pv own m A5 c5 A8 c8 xs w8 HM8.out.sx (by omega) HM8.out.stayed.2.2 HM8.out.stayed.2.1 HS8.out (by omega)).mono ?_
          rintro e w9 ⟨rfl, hN9⟩
          have HM9 := Aside0.mk (HM8.out.now hN9)
          clear hN9 HM8 HS8
          go_wp2_with fail
          refine (SNow.groups_ (w := w9) ⟨HM9.out.sx, Sets.Frame.refl _ _⟩ (by omega)).mono ?_
          rintro e w10 ⟨v10, rfl, hG10, hN10⟩
          obtain ⟨gs, hgs⟩ : ∃ gs, gs = (groupsOf m).map ints := ⟨_, rfl⟩
          rw [← hgs] at hG10
          have HGS := Aside0.mk hgs
          clear hgs
          obtain ⟨A10, c10, rfl, hl10, hC10⟩ := Kd.R_reads hG10
          have HM10 := Aside0.mk (HM9.out.now hN10)
          have HC10 := Aside0.mk hC10
          have HL10 := Aside0.mk hl10
          clear hG10 hN10 hC10 hl10 HM9
          have hgl : gs.length ≤ 3000 := by
            rw [HGS.out, List.length_map, groupsOf_length]
            have := numTo_le m m.length
            omega
          go_wp2_with fail
          obtain ⟨N, E, hpt, hN⟩ := HPT.out
          obtain ⟨kg, hkg⟩ := PureR.groups_ref hpt (by omega)
          rw [← HGS.out] at hkg
          refine (tangramref05_Groups.calls kg A5 c5 (ints m) _ w10 HM10.out.stayed.2.2.now HM10.out.stayed.2.1 hkg).mono ?_
          rintro e w11 ⟨v11, rfl, hS11, hb11⟩
          obtain ⟨A11, c11, rfl, hl11, hC11⟩ := Kd.S_reads hS11
          obtain ⟨kl, hkl⟩ := PureL.lists_same gs (by omega) (fun x hx => by rw [HGS.out] at hx; have := groupsOf_le hx; omega)
          have hsame := tangramref01_SameLists.calls kl A10 c10 _ A11 c11 _ true w11 (Kd.C_below HC10.out hb11) HL10.out hC11 hl11 hkl
          have HSA := Aside0.mk hsame
          have HM11 := Aside0.mk (HM10.out.below hb11)
          clear hsame hkl hC11 hl11 hS11 hb11 hkg hpt HC10 HL10 HM10
          go_wp2_with fail
          refine (HSA.out).mono ?_
          rintro e w12 ⟨rfl, ⟨dn, rfl⟩⟩
          go_wp2_with fail
          go_ret
          exact ⟨rfl, HM11.out.old.trans (((Sets.Frame.refl (fun _ => False) w11).drewN dn).below HM11.out.old.size (fun _ e => e.elim))⟩
    · have c4b : decide (a0 ≤ 1048576) = false := decide_eq_false c4
      go_wp2_with fail
      repeat (go_quiet (fail); try go_wp2_with fail)
      refine (new_no _ _ (by omega)).mono ?_
      rintro e w2 ⟨rfl, rfl⟩
      go_wp2_with fail
      refine (tangramref05_New.calls 1 _ _ 2 w1 (refnew_no _ (by omega))).mono ?_
      rintro e w3 ⟨vm, rfl, hR, hb⟩
      have HM : Aside0 (Mid w w3 (.pointer none) (fun _ => False) [] [] vm) := ⟨⟨.inr ⟨rfl, rfl, rfl⟩, ⟨fun k hk e => e, (Kd.R_lower hR HB1.out.size).2⟩, HB1.out.trans (hb.mono HB1.out.size), fun k e => e.elim⟩⟩
      have HPT : Aside0 (∃ N E, Part N E [] ∧ N ≤ 3000) := ⟨0, _, Part.range 0, by omega⟩
      clear hR hb HB1
      go_wp2_with fail
      repeat (go_quiet (fail); try go_wp2_with fail)
      obtain ⟨own, hown⟩ : ∃ own : Nat → Prop, own = fun _ => False := ⟨_, rfl⟩
      obtain ⟨m0, hm0⟩ : ∃ m0 : List Nat, m0 = [] := ⟨_, rfl⟩
      rw [← hown, ← hm0] at HM
      rw [← hm0] at HPT
      clear hown hm0
      generalize Value.pointer none = pv at HM ⊢
      go_loopw [7, 45] (fun vm v wr => ∃ (i : Nat) (m : List Nat), v = .int .i64 (i : Int) ∧ i ≤ es.length ∧ Aside0 (∃ N E, Part N E m ∧ N ≤ 3000) ∧ Aside0 (Mid w wr pv own m m vm)) (fun _ v _ => es.length - (intOf v).toNat)
      case atStart => exact ⟨0, m0, rfl, by omega, HPT, HM⟩
      case round =>
        clear HM HPT
        rename_i vm _
        obtain ⟨i, m, rfl, hi, HPT, HM⟩ := hrel
        by_cases hlt : i < es.length
        · obtain ⟨ad, eA, hx1, hx2⟩ := (HR1.out.below HM.out.old) i hlt
          subst eA
          obtain ⟨x, hx⟩ : ∃ x, x = (pe es i).1 := ⟨_, rfl⟩
          obtain ⟨y, hy⟩ : ∃ y, y = (pe es i).2 := ⟨_, rfl⟩
          rw [← hx] at hx1
          rw [← hy] at hx2
          clear hx hy
          have hml : m.length ≤ 3000 := by obtain ⟨N, E, h1, h2⟩ := HPT.out; rw [h1.len]; exact h2
          go_wp2_with fail
          have HM1 := Aside0.mk (HM.out.alloc (.cells #[.int .i64 x, .int .i64 y] 45 (0, 0)))
          refine (HM1.out.rjoin (by omega) x y).mono ?_
          rintro e w5 ⟨vm5, rfl, h5, hK⟩
          have X5 : Aside0 (w5.heap[wr.heap.size]? = some (.cells #[.int .i64 x, .int .i64 y] 45 (0, 0))) := ⟨(hK.2 _ (by simp) (fun e => by have := HM.out.vm_lt e; omega)).trans (heap_last _ _)⟩
          have HNO : Aside0 (¬ own wr.heap.size) := ⟨fun e => by have := HM.out.sx.hi _ e; omega⟩
          obtain ⟨b, hb⟩ : ∃ b, b = wr.heap.size := ⟨_, rfl⟩
          rw [← hb] at X5 HNO
          have HPT2 : Aside0 (∃ N E, Part N E (joinOf m x y).1 ∧ N ≤ 3000) := ⟨by obtain ⟨N, E, h1, h2⟩ := HPT.out; exact ⟨N, _, joinOf_part h1 x y, h2⟩⟩
          have hml2 : (joinOf m x y).1.length ≤ 3000 := by rw [joinOf_length]; exact hml
          have HM6 := Aside0.mk h5.drew
          obtain ⟨A5, c5, rfl, hc5, _⟩ := h5.stay
          obtain ⟨m', hm'⟩ : ∃ m', m' = (joinOf m x y).1 := ⟨_, rfl⟩
          rw [← hm'] at HM6 HPT2 hml2 ⊢
          clear h5 hK HM1 HM HPT hx1 hx2 hml hc5
          obtain ⟨kk, xs, hxl, hkk⟩ := PureR.few_ref (ints m').length
          have hxl2 : (xs ++ [x, y]).length ≤ 100 := by simp; omega
          have HKK := Aside0.mk hkk
          clear hkk
          have C0 : Aside0 (w5.drew.cell? ⟨b, 0, none⟩ = some (.int .i64 x)) := ⟨(blk_cell X5.out 0).trans rfl⟩
          have C1 : Aside0 (w5.drew.cell? ⟨b, 1, none⟩ = some (.int .i64 y)) := ⟨(blk_cell X5.out 1).trans rfl⟩
          rw [← hb]
          clear X5 hb
          have HJ := Aside0.mk hm'
          clear hm'
          go_wp2_with fail
          refine start_ (n := 23) (S := fun w' => w'.cell? ⟨b, 0, none⟩ = some (.int .i64 x) ∧ w'.cell? ⟨b, 1, none⟩ = some (.int .i64 y)) (ds := []) #[false, false, false, false, false, false, false, false, false, false, false, false, false, false, false, false, false, false, false, false, false, false, false] (by kernel_rfl) rfl rfl ⟨C0.out, C1.out⟩ (fun hHeld => ?_)
          refine pure_ (i := 0) (N := some 59) (v := ?_) (a' := ?_) #[true, false, false, false, false, false, false, false, false, false, false, false, false, false, false, false, false, false, false, false, false, false, false] rfl rfl (by kernel_rfl) (fun _ _ _ h => h) (Or.inl ⟨by rfl, ?_⟩) ?_ ?_
          rotate_left
          · intro w'
            go_simp
            with_reducible rfl
          rotate_left
          · simp only [Act.put, List.setIfInBounds_toArray, List.set_cons_zero, List.set_cons_succ, i64_w, i32_w]
            rfl
          refine pure_ (i := 1) (N := some 60) (v := ?_) (a' := ?_) #[true, true, false, false, false, false, false, false, false, false, false, false, false, false, false, false, false, false, false, false, false, false, false] rfl rfl (by kernel_rfl) (fun _ _ _ h => h) (Or.inl ⟨by rfl, ?_⟩) ?_ ?_
          rotate_left
          · intro w'
            go_simp
            with_reducible rfl
          rotate_left
          · simp only [Act.put, List.setIfInBounds_toArray, List.set_cons_zero, List.set_cons_succ, i64_w, i32_w]
            rfl
          refine pure_ (i := 3) (N := some 62) (v := ?_) (a' := ?_) #[true, true, false, true, false, false, false, false, false, false, false, false, false, false, false, false, false, false, false, false, false, false, false] rfl rfl (by kernel_rfl) (fun _ _ _ h => h) (Or.inl ⟨by rfl, ?_⟩) ?_ ?_
          rotate_left
          · intro w'
            go_simp
            with_reducible rfl
          rotate_left
          · simp only [Act.put, List.setIfInBounds_toArray, List.set_cons_zero, List.set_cons_succ, i64_w, i32_w]
            rfl
          refine pure_ (i := 6) (N := some 65) (v := ?_) (a' := ?_) #[true, true, false, true, false, false, true, false, false, false, false, false, false, false, false, false, false, false, false, false, false, false, false] rfl rfl (by kernel_rfl) (fun _ _ _ h => h) (Or.inl ⟨by rfl, ?_⟩) ?_ ?_
          rotate_left
          · intro w'
            go_simp
            with_reducible rfl
          rotate_left
          · simp only [Act.put, List.setIfInBounds_toArray, List.set_cons_zero, List.set_cons_succ, i64_w, i32_w]
            rfl
          refine take_ (i := 2) (N := some 61) (v := ?_) (a' := ?_) #[true, true, true, true, false, false, true, false, false, false, false, false, false, false, false, false, false, false, false, false, false, false, false] rfl rfl (by kernel_rfl) (fun _ _ _ h => h) (Or.inl ⟨by rfl, ?_⟩) hHeld ?_ ?_
          rotate_left
          · rintro w' ⟨s0, s1⟩
            go_simp
            with_reducible rfl
          rotate_left
          · simp only [Act.put, List.setIfInBounds_toArray, List.set_cons_zero, List.set_cons_succ, i64_w, i32_w]
            rfl
          refine take_ (i := 4) (N := some 63) (v := ?_) (a' := ?_) #[true, true, true, true, true, false, true, false, false, false, false, false, false, false, false, false, false, false, false, false, false, false, false] rfl rfl (by kernel_rfl) (fun _ _ _ h => h) (Or.inl ⟨by rfl, ?_⟩) hHeld ?_ ?_
          rotate_left
          · rintro w' ⟨s0, s1⟩
            go_simp
            with_reducible rfl
          rotate_left
          · simp only [Act.put, List.setIfInBounds_toArray, List.set_cons_zero, List.set_cons_succ, i64_w, i32_w]
            rfl
          refine one_ (i := 5) (N := some 64) #[true, true, true, true, true, true, true, false, false, false, false, false, false, false, false, false, false, false, false, false, false, false, false] rfl rfl (by kernel_rfl) (by decide) (fun K hK => ?_)
          refine goes_ Try.func17 (by kernel_rfl) rfl #[pv, .int .i64 x, .int .i64 y] (by rfl) rfl rfl (by simp only [List.map_toArray, List.map_cons, List.map_nil]; rfl) ?_
          with_reducible refine (HM6.out.join x y).mono ?_
          rintro e w7 ⟨rfl, hM7, hF7⟩
          refine ⟨_, rfl, ?_⟩
          rw [← HJ.out] at hM7
          have HM7 := Aside0.mk hM7
          have D0 := Aside0.mk (hF7.cell C0.out HNO.out)
          have D1 := Aside0.mk (hF7.cell C1.out HNO.out)
          clear hM7 hF7 HM6 C0 C1
          refine hK.out _ _ ⟨D0.out, D1.out⟩ (fun hHeld => ?_)
          clear hK K
          refine norm_ (a' := ?_) ?_ ?_
          rotate_left
          · show Act.put _ (some 64) _ = _
            simp only [Act.put, List.setIfInBounds_toArray, List.set_cons_zero, List.set_cons_succ, i64_w, i32_w]
            rfl
          refine pure_ (i := 7) (N := some 66) (v := ?_) (a' := ?_) #[true, true, true, true, true, true, true, true, false, false, false, false, false, false, false, false, false, false, false, false, false, false, false] rfl rfl (by kernel_rfl) (fun _ _ _ h => h) (Or.inl ⟨by rfl, ?_⟩) ?_ ?_
          rotate_left
          · intro w'
            go_simp
            with_reducible rfl
          rotate_left
          · simp only [Act.put, List.setIfInBounds_toArray, List.set_cons_zero, List.set_cons_succ, i64_w, i32_w]
            rfl
          refine pure_ (i := 8) (N := some 67) (v := ?_) (a' := ?_) #[true, true, true, true, true, true, true, true, true, false, false, false, false, false, false, false, false, false, false, false, false, false, false] rfl rfl (by kernel_rfl) (fun _ _ _ h => h) (Or.inl ⟨by rfl, ?_⟩) ?_ ?_
          rotate_left
          · intro w'
            go_simp
            with_reducible rfl
          rotate_left
          · simp only [Act.put, List.setIfInBounds_toArray, List.set_cons_zero, List.set_cons_succ, i64_w, i32_w]
            rfl
          refine pure_ (i := 9) (N := some 68) (v := ?_) (a' := ?_) #[true, true, true, true, true, true, true, true, true, true, false, false, false, false, false, false, false, false, false, false, false, false, false] rfl rfl (by kernel_rfl) (fun _ _ _ h => h) (Or.inl ⟨by rfl, ?_⟩) ?_ ?_
          rotate_left
          · intro w'
            go_simp
            with_reducible rfl
          rotate_left
          · simp only [Act.put, List.setIfInBounds_toArray, List.set_cons_zero, List.set_cons_succ, i64_w, i32_w]
            rfl
          refine pure_ (i := 10) (N := some 69) (v := ?_) (a' := ?_) #[true, true, true, true, true, true, true, true, true, true, true, false, false, false, false, false, false, false, false, false, false, false, false] rfl rfl (by kernel_rfl) (fun _ _ _ h => h) (Or.inl ⟨by rfl, ?_⟩) ?_ ?_
          rotate_left
          · intro w'
            go_simp
            with_reducible rfl
          rotate_left
          · simp only [Act.put, List.setIfInBounds_toArray, List.set_cons_zero, List.set_cons_succ, i64_w, i32_w]
            rfl
          refine pure_ (i := 11) (N := some 70) (v := ?_) (a' := ?_) #[true, true, true, true, true, true, true, true, true, true, true, true, false, false, false, false, false, false, false, false, false, false, false] rfl rfl (by kernel_rfl) (fun _ _ _ h => h) (Or.inl ⟨by rfl, ?_⟩) ?_ ?_
          rotate_left
          · intro w'
            go_simp
            with_reducible rfl
          rotate_left
          · simp only [Act.put, List.setIfInBounds_toArray, List.set_cons_zero, List.set_cons_succ, i64_w, i32_w]
            rfl
          refine pure_ (i := 12) (N := some 71) (v := ?_) (a' := ?_) #[true, true, true, true, true, true, true, true, true, true, true, true, true, false, false, false, false, false, false, false, false, false, false] rfl rfl (by kernel_rfl) (fun _ _ _ h => h) (Or.inl ⟨by rfl, ?_⟩) ?_ ?_
          rotate_left
          · intro w'
            go_simp
            with_reducible rfl
          rotate_left
          · simp only [Act.put, List.setIfInBounds_toArray, List.set_cons_zero, List.set_cons_succ, i64_w, i32_w]
            rfl
          refine pure_ (i := 14) (N := some 73) (v := ?_) (a' := ?_) #[true, true, true, true, true, true, true, true, true, true, true, true, true, false, true, false, false, false, false, false, false, false, false] rfl rfl (by kernel_rfl) (fun _ _ _ h => h) (Or.inl ⟨by rfl, ?_⟩) ?_ ?_
          rotate_left
          · intro w'
            go_simp
            with_reducible rfl
          rotate_left
          · simp only [Act.put, List.setIfInBounds_toArray, List.set_cons_zero, List.set_cons_succ, i64_w, i32_w]
            rfl
          refine pure_ (i := 16) (N := some 75) (v := ?_) (a' := ?_) #[true, true, true, true, true, true, true, true, true, true, true, true, true, false, true, false, true, false, false, false, false, false, false] rfl rfl (by kernel_rfl) (fun _ _ _ h => h) (Or.inl ⟨by rfl, ?_⟩) ?_ ?_
          rotate_left
          · intro w'
            go_simp
            with_reducible rfl
          rotate_left
          · simp only [Act.put, List.setIfInBounds_toArray, List.set_cons_zero, List.set_cons_succ, i64_w, i32_w]
            rfl
          refine take_ (i := 15) (N := some 74) (v := ?_) (a' := ?_) #[true, true, true, true, true, true, true, true, true, true, true, true, true, false, true, true, true, false, false, false, false, false, false] rfl rfl (by kernel_rfl) (fun _ _ _ h => h) (Or.inl ⟨by rfl, ?_⟩) hHeld ?_ ?_
          rotate_left
          · rintro w' ⟨s0, s1⟩
            go_simp
            with_reducible rfl
          rotate_left
          · simp only [Act.put, List.setIfInBounds_toArray, List.set_cons_zero, List.set_cons_succ, i64_w, i32_w]
            rfl
          refine take_ (i := 17) (N := some 76) (v := ?_) (a' := ?_) #[true, true, true, true, true, true, true, true, true, true, true, true, true, false, true, true, true, true, false, false, false, false, false] rfl rfl (by kernel_rfl) (fun _ _ _ h => h) (Or.inl ⟨by rfl, ?_⟩) hHeld ?_ ?_
          rotate_left
          · rintro w' ⟨s0, s1⟩
            go_simp
            with_reducible rfl
          rotate_left
          · simp only [Act.put, List.setIfInBounds_toArray, List.set_cons_zero, List.set_cons_succ, i64_w, i32_w]
            rfl
          refine join_ (σ := Value × Nat) 4 #[true, true, true, true, true, true, true, true, true, true, true, true, true, true, true, true, true, true, true, false, false, false, false] (fun s => [(72, s.1), (77, .slice (some ⟨s.2, 0, none⟩) 2 2)]) (fun s w' => Fk w7 x y xs s w') ?_ ?_
          rotate_left
          · intro hCont
            refine two_ (i := 13) (j := 18) (Ni := some 72) (Nj := some 77) #[true, true, true, true, true, true, true, true, true, true, true, true, true, true, true, true, true, true, false, false, false, false, false] #[true, true, true, true, true, true, true, true, true, true, true, true, true, false, true, true, true, true, true, false, false, false, false] rfl rfl rfl rfl (by kernel_rfl) (by decide) (by decide) (fun K hK => ?_) (fun K hK => ?_)
            · skip
              refine goes_ Try.func21 (by kernel_rfl) rfl #[.int .i64 ((ints m').length : Int)] (by rfl) rfl rfl (by simp only [List.map_toArray, List.map_cons, List.map_nil]; rfl) ?_
              with_reducible refine (tangramlaw05_few.calls kk _ xs _ HKK.out).mono ?_
              rintro e w8 ⟨v8, rfl, hR8, hb8⟩
              refine ⟨_, rfl, ?_⟩
              refine hK.out _ _ ⟨(hb8.cell (cell_block hHeld.1)).trans hHeld.1, (hb8.cell (cell_block hHeld.2)).trans hHeld.2⟩ (fun hHeld => ?_)
              clear hK K
              refine norm_ (a' := ?_) ?_ ?_
              rotate_left
              · show Act.put _ (some 72) _ = _
                simp only [Act.put, List.setIfInBounds_toArray, List.set_cons_zero, List.set_cons_succ, i64_w, i32_w]
                rfl
              refine one_ (i := 18) (N := some 77) #[true, true, true, true, true, true, true, true, true, true, true, true, true, true, true, true, true, true, true, false, false, false, false] rfl rfl (by kernel_rfl) (by decide) (fun K hK => ?_)
              refine value_ (w1 := ?_) (v := ?_) (by rfl) rfl ?_ ?_
              rotate_left 2
              · go_simp
                constructor
                · rfl
                · rfl
              refine hK.out _ _ ⟨(((Below.refl _ _).alloc (Nat.le_refl _) _).cell (cell_block hHeld.1)).trans hHeld.1, (((Below.refl _ _).alloc (Nat.le_refl _) _).cell (cell_block hHeld.2)).trans hHeld.2⟩ (fun hHeld => ?_)
              clear hK K
              refine norm_ (a' := ?_) ?_ ?_
              rotate_left
              · show Act.put _ (some 77) _ = _
                simp only [Act.put, List.setIfInBounds_toArray, List.set_cons_zero, List.set_cons_succ, i64_w, i32_w]
                rfl
              exact norm_ (by simp only [putAll, Act.put, List.setIfInBounds_toArray, List.set_cons_zero, List.set_cons_succ]) (hCont (v8, w8.heap.size) _ (Fk.one hR8 hb8))
            · skip
              refine value_ (w1 := ?_) (v := ?_) (by rfl) rfl ?_ ?_
              rotate_left 2
              · go_simp
                constructor
                · rfl
                · rfl
              refine hK.out _ _ ⟨(((Below.refl _ _).alloc (Nat.le_refl _) _).cell (cell_block hHeld.1)).trans hHeld.1, (((Below.refl _ _).alloc (Nat.le_refl _) _).cell (cell_block hHeld.2)).trans hHeld.2⟩ (fun hHeld => ?_)
              clear hK K
              refine norm_ (a' := ?_) ?_ ?_
              rotate_left
              · show Act.put _ (some 77) _ = _
                simp only [Act.put, List.setIfInBounds_toArray, List.set_cons_zero, List.set_cons_succ, i64_w, i32_w]
                rfl
              refine one_ (i := 13) (N := some 72) #[true, true, true, true, true, true, true, true, true, true, true, true, true, true, true, true, true, true, true, false, false, false, false] rfl rfl (by kernel_rfl) (by decide) (fun K hK => ?_)
              refine goes_ Try.func21 (by kernel_rfl) rfl #[.int .i64 ((ints m').length : Int)] (by rfl) rfl rfl (by simp only [List.map_toArray, List.map_cons, List.map_nil]; rfl) ?_
              with_reducible refine (tangramlaw05_few.calls kk _ xs _ HKK.out).mono ?_
              rintro e w8 ⟨v8, rfl, hR8, hb8⟩
              refine ⟨_, rfl, ?_⟩
              refine hK.out _ _ ⟨(hb8.cell (cell_block hHeld.1)).trans hHeld.1, (hb8.cell (cell_block hHeld.2)).trans hHeld.2⟩ (fun hHeld => ?_)
              clear hK K
              refine norm_ (a' := ?_) ?_ ?_
              rotate_left
              · show Act.put _ (some 72) _ = _
                simp only [Act.put, List.setIfInBounds_toArray, List.set_cons_zero, List.set_cons_succ, i64_w, i32_w]
                rfl
              exact norm_ (by simp only [putAll, Act.put, List.setIfInBounds_toArray, List.set_cons_zero, List.set_cons_succ]) (hCont (v8, w7.heap.size) _ (Fk.two hR8 hb8))
          rintro ⟨v9, b9⟩ w9 hF9
          have hF9 := Aside0.mk hF9
          have hHeld : w9.cell? ⟨b, 0, none⟩ = some (.int .i64 x) ∧ w9.cell? ⟨b, 1, none⟩ = some (.int .i64 y) := ⟨(hF9.out.2.2.1.cell (cell_block D0.out)).trans D0.out, (hF9.out.2.2.1.cell (cell_block D1.out)).trans D1.out⟩
          refine norm_ (a' := ?_) ?_ ?_
          rotate_left
          · simp only [putAll, Act.put, List.setIfInBounds_toArray, List.set_cons_zero, List.set_cons_succ]
            rfl
          refine one_ (i := 19) (N := some 78) #[true, true, true, true, true, true, true, true, true, true, true, true, true, true, true, true, true, true, true, true, false, false, false] rfl rfl (by kernel_rfl) (by decide) (fun K hK => ?_)
          refine Kd.R_append_rows_step (Kd.int .i64) (Rr := (Kd.int .i64).K w9) (w0 := w7) w7.heap.size (by rfl) (.tmp 72) (.tmp 77) 34 3 (.int .i64 0) 8 rfl Try.underlying34 info_int rfl (by decide) (by decide) v9 xs [x, y] (some ⟨b9, 0, none⟩) 2 2 (fun _ => True) (fun _ => False) rfl rfl (Kd.R_mono hF9.out.1 (fun _ _ => trivial)) (two_reads hF9.out.2.1) (fun _ _ h => h) (fun _ h => h.elim) (fun _ _ => trivial) hF9.out.2.2.1 hF9.out.2.2.1.size (by omega) ?_
          intro v10 w10 hR10 hb10 hg10 hat10
          obtain ⟨A10, c10, rfl, _, hst10⟩ := stay_of_R (own := own) hR10 (fun k hk _ e => by have := HM7.out.sx.hi k e; omega)
          have HS10 := Aside0.mk hst10
          have HM10 := Aside0.mk (HM7.out.below hb10)
          have E0 := Aside0.mk ((hb10.cell (cell_block D0.out)).trans D0.out)
          have E1 := Aside0.mk ((hb10.cell (cell_block D1.out)).trans D1.out)
          clear hR10 hb10 hg10 hat10 hst10 D0 D1 HM7 hF9
          refine hK.out _ _ ⟨E0.out, E1.out⟩ (fun hHeld => ?_)
          clear hK K
          refine norm_ (a' := ?_) ?_ ?_
          rotate_left
          · show Act.put _ (some 78) _ = _
            simp only [Act.put, List.setIfInBounds_toArray, List.set_cons_zero, List.set_cons_succ, i64_w, i32_w]
            rfl
          refine one_ (i := 20) (N := some 79) #[true, true, true, true, true, true, true, true, true, true, true, true, true, true, true, true, true, true, true, true, true, false, false] rfl rfl (by kernel_rfl) (by decide) (fun K hK => ?_)
          refine goes_ Try.func20 (by kernel_rfl) rfl #[pv, .slice A5 (ints m').length c5, .slice A10 (xs ++ [x, y]).length c10] (by rfl) rfl rfl (by simp only [List.map_toArray, List.map_cons, List.map_nil]; rfl) ?_
          with_reducible refine (tells_calls pv own m' A5 c5 A10 c10 (xs ++ [x, y]) w10 HM10.out.sx (by omega) HM10.out.stayed.2.2 HM10.out.stayed.2.1 HS10.out hxl2).mono ?_
          rintro e w11 ⟨rfl, hN11⟩
          refine ⟨_, rfl, ?_⟩
          have HM11 := Aside0.mk (HM10.out.now hN11)
          refine hK.out _ _ ⟨hN11.2.cell E0.out HNO.out, hN11.2.cell E1.out HNO.out⟩ (fun hHeld => ?_)
          clear hK K
          refine norm_ (a' := ?_) ?_ ?_
          rotate_left
          · show Act.put _ (some 79) _ = _
            simp only [Act.put, List.setIfInBounds_toArray, List.set_cons_zero, List.set_cons_succ, i64_w, i32_w]
            rfl
          refine pure_ (i := 21) (N := some 80) (v := ?_) (a' := ?_) #[true, true, true, true, true, true, true, true, true, true, true, true, true, true, true, true, true, true, true, true, true, true, false] rfl rfl (by kernel_rfl) (fun _ _ _ h => h) (Or.inl ⟨by rfl, ?_⟩) ?_ ?_
          rotate_left
          · intro w'
            go_simp
            with_reducible rfl
          rotate_left
          · simp only [Act.put, List.setIfInBounds_toArray, List.set_cons_zero, List.set_cons_succ, i64_w, i32_w]
            rfl
          refine pure_ (i := 22) (N := some 81) (v := ?_) (a' := ?_) #[true, true, true, true, true, true, true, true, true, true, true, true, true, true, true, true, true, true, true, true, true, true, true] rfl rfl (by kernel_rfl) (fun _ _ _ h => h) (Or.inl ⟨by rfl, ?_⟩) ?_ ?_
          rotate_left
          · intro w'
            go_simp
            with_reducible rfl
          rotate_left
          · simp only [Act.put, List.setIfInBounds_toArray, List.set_cons_zero, List.set_cons_succ, i64_w, i32_w]
            rfl
          refine done_ (by kernel_rfl) ?_
          clear HM10 HS10 E0 E1 HKK HJ HNO
          go_wp2_with fail
          go_roundw
          case rel => exact ⟨i + 1, m', by go_num, by omega, HPT2, HM11⟩
          case measure => simp [intOf]; omega
        · obtain rfl : i = es.length := by omega
          have hml : m.length ≤ 3000 := by obtain ⟨N, E, h1, h2⟩ := HPT.out; rw [h1.len]; exact h2
          obtain ⟨A5, c5, rfl, hc5, _⟩ := HM.out.stay
          clear hc5
          obtain ⟨kk, xs, hxl, hkk⟩ := PureR.few_ref (ints m).length
          have HKK := Aside0.mk hkk
          clear hkk
          go_wp2_with fail
          refine (tangramlaw05_few.calls kk _ xs _ HKK.out).mono ?_
          rintro e w8 ⟨v8, rfl, hR8, hb8⟩
          obtain ⟨A8, c8, rfl, _, hst8⟩ := stay_of_R (own := own) hR8 (fun k hk _ e => by have := HM.out.sx.hi k e; omega)
          have HS8 := Aside0.mk hst8
          have HM8 := Aside0.mk (HM.out.below hb8)
          clear hR8 hb8 hst8 HM HKK
          go_wp2_with fail
          refine (tells_calls pv own m A5 c5 A8 c8 xs w8 HM8.out.sx (by omega) HM8.out.stayed.2.2 HM8.out.stayed.2.1 HS8.out (by omega)).mono ?_
          rintro e w9 ⟨rfl, hN9⟩
          have HM9 := Aside0.mk (HM8.out.now hN9)
          clear hN9 HM8 HS8
          go_wp2_with fail
          refine (SNow.groups_ (w := w9) ⟨HM9.out.sx, Sets.Frame.refl _ _⟩ (by omega)).mono ?_
          rintro e w10 ⟨v10, rfl, hG10, hN10⟩
          obtain ⟨gs, hgs⟩ : ∃ gs, gs = (groupsOf m).map ints := ⟨_, rfl⟩
          rw [← hgs] at hG10
          have HGS := Aside0.mk hgs
          clear hgs
          obtain ⟨A10, c10, rfl, hl10, hC10⟩ := Kd.R_reads hG10
          have HM10 := Aside0.mk (HM9.out.now hN10)
          have HC10 := Aside0.mk hC10
          have HL10 := Aside0.mk hl10
          clear hG10 hN10 hC10 hl10 HM9
          have hgl : gs.length ≤ 3000 := by
            rw [HGS.out, List.length_map, groupsOf_length]
            have := numTo_le m m.length
            omega
          go_wp2_with fail
          obtain ⟨N, E, hpt, hN⟩ := HPT.out
          obtain ⟨kg, hkg⟩ := PureR.groups_ref hpt (by omega)
          rw [← HGS.out] at hkg
          refine (tangramref05_Groups.calls kg A5 c5 (ints m) _ w10 HM10.out.stayed.2.2.now HM10.out.stayed.2.1 hkg).mono ?_
          rintro e w11 ⟨v11, rfl, hS11, hb11⟩
          obtain ⟨A11, c11, rfl, hl11, hC11⟩ := Kd.S_reads hS11
          obtain ⟨kl, hkl⟩ := PureL.lists_same gs (by omega) (fun x hx => by rw [HGS.out] at hx; have := groupsOf_le hx; omega)
          have hsame := tangramref01_SameLists.calls kl A10 c10 _ A11 c11 _ true w11 (Kd.C_below HC10.out hb11) HL10.out hC11 hl11 hkl
          have HSA := Aside0.mk hsame
          have HM11 := Aside0.mk (HM10.out.below hb11)
          clear hsame hkl hC11 hl11 hS11 hb11 hkg hpt HC10 HL10 HM10
          go_wp2_with fail
          refine (HSA.out).mono ?_
          rintro e w12 ⟨rfl, ⟨dn, rfl⟩⟩
          go_wp2_with fail
          go_ret
          exact ⟨rfl, HM11.out.old.trans (((Sets.Frame.refl (fun _ => False) w11).drewN dn).below HM11.out.old.size (fun _ e => e.elim))⟩
  · have c3b : decide (3000 < a0) = false := decide_eq_false c3
    by_cases c0 : a0 < 0
    · go_wp2_with fail
      repeat (go_quiet (fail); try go_wp2_with fail)
      refine (new_no _ _ (by omega)).mono ?_
      rintro e w2 ⟨rfl, rfl⟩
      go_wp2_with fail
      refine (tangramref05_New.calls 1 _ _ 2 w1 (refnew_no _ (by omega))).mono ?_
      rintro e w3 ⟨vm, rfl, hR, hb⟩
      have HM : Aside0 (Mid w w3 (.pointer none) (fun _ => False) [] [] vm) := ⟨⟨.inr ⟨rfl, rfl, rfl⟩, ⟨fun k hk e => e, (Kd.R_lower hR HB1.out.size).2⟩, HB1.out.trans (hb.mono HB1.out.size), fun k e => e.elim⟩⟩
      have HPT : Aside0 (∃ N E, Part N E [] ∧ N ≤ 3000) := ⟨0, _, Part.range 0, by omega⟩
      clear hR hb HB1
      go_wp2_with fail
      repeat (go_quiet (fail); try go_wp2_with fail)
      obtain ⟨own, hown⟩ : ∃ own : Nat → Prop, own = fun _ => False := ⟨_, rfl⟩
      obtain ⟨m0, hm0⟩ : ∃ m0 : List Nat, m0 = [] := ⟨_, rfl⟩
      rw [← hown, ← hm0] at HM
      rw [← hm0] at HPT
      clear hown hm0
      generalize Value.pointer none = pv at HM ⊢
      go_loopw [7, 45] (fun vm v wr => ∃ (i : Nat) (m : List Nat), v = .int .i64 (i : Int) ∧ i ≤ es.length ∧ Aside0 (∃ N E, Part N E m ∧ N ≤ 3000) ∧ Aside0 (Mid w wr pv own m m vm)) (fun _ v _ => es.length - (intOf v).toNat)
      case atStart => exact ⟨0, m0, rfl, by omega, HPT, HM⟩
      case round =>
        clear HM HPT
        rename_i vm _
        obtain ⟨i, m, rfl, hi, HPT, HM⟩ := hrel
        by_cases hlt : i < es.length
        · obtain ⟨ad, eA, hx1, hx2⟩ := (HR1.out.below HM.out.old) i hlt
          subst eA
          obtain ⟨x, hx⟩ : ∃ x, x = (pe es i).1 := ⟨_, rfl⟩
          obtain ⟨y, hy⟩ : ∃ y, y = (pe es i).2 := ⟨_, rfl⟩
          rw [← hx] at hx1
          rw [← hy] at hx2
          clear hx hy
          have hml : m.length ≤ 3000 := by obtain ⟨N, E, h1, h2⟩ := HPT.out; rw [h1.len]; exact h2
          go_wp2_with fail
          have HM1 := Aside0.mk (HM.out.alloc (.cells #[.int .i64 x, .int .i64 y] 45 (0, 0)))
          refine (HM1.out.rjoin (by omega) x y).mono ?_
          rintro e w5 ⟨vm5, rfl, h5, hK⟩
          have X5 : Aside0 (w5.heap[wr.heap.size]? = some (.cells #[.int .i64 x, .int .i64 y] 45 (0, 0))) := ⟨(hK.2 _ (by simp) (fun e => by have := HM.out.vm_lt e; omega)).trans (heap_last _ _)⟩
          have HNO : Aside0 (¬ own wr.heap.size) := ⟨fun e => by have := HM.out.sx.hi _ e; omega⟩
          obtain ⟨b, hb⟩ : ∃ b, b = wr.heap.size := ⟨_, rfl⟩
          rw [← hb] at X5 HNO
          have HPT2 : Aside0 (∃ N E, Part N E (joinOf m x y).1 ∧ N ≤ 3000) := ⟨by obtain ⟨N, E, h1, h2⟩ := HPT.out; exact ⟨N, _, joinOf_part h1 x y, h2⟩⟩
          have hml2 : (joinOf m x y).1.length ≤ 3000 := by rw [joinOf_length]; exact hml
          have HM6 := Aside0.mk h5.drew
          obtain ⟨A5, c5, rfl, hc5, _⟩ := h5.stay
          obtain ⟨m', hm'⟩ : ∃ m', m' = (joinOf m x y).1 := ⟨_, rfl⟩
          rw [← hm'] at HM6 HPT2 hml2 ⊢
          clear h5 hK HM1 HM HPT hx1 hx2 hml hc5
          obtain ⟨kk, xs, hxl, hkk⟩ := PureR.few_ref (ints m').length
          have hxl2 : (xs ++ [x, y]).length ≤ 100 := by simp; omega
          have HKK := Aside0.mk hkk
          clear hkk
          have C0 : Aside0 (w5.drew.cell? ⟨b, 0, none⟩ = some (.int .i64 x)) := ⟨(blk_cell X5.out 0).trans rfl⟩
          have C1 : Aside0 (w5.drew.cell? ⟨b, 1, none⟩ = some (.int .i64 y)) := ⟨(blk_cell X5.out 1).trans rfl⟩
          rw [← hb]
          clear X5 hb
          have HJ := Aside0.mk hm'
          clear hm'
          go_wp2_with fail
          refine start_ (n := 23) (S := fun w' => w'.cell? ⟨b, 0, none⟩ = some (.int .i64 x) ∧ w'.cell? ⟨b, 1, none⟩ = some (.int .i64 y)) (ds := []) #[false, false, false, false, false, false, false, false, false, false, false, false, false, false, false, false, false, false, false, false, false, false, false] (by kernel_rfl) rfl rfl ⟨C0.out, C1.out⟩ (fun hHeld => ?_)
          refine pure_ (i := 0) (N := some 59) (v := ?_) (a' := ?_) #[true, false, false, false, false, false, false, false, false, false, false, false, false, false, false, false, false, false, false, false, false, false, false] rfl rfl (by kernel_rfl) (fun _ _ _ h => h) (Or.inl ⟨by rfl, ?_⟩) ?_ ?_
          rotate_left
          · intro w'
            go_simp
            with_reducible rfl
          rotate_left
          · simp only [Act.put, List.setIfInBounds_toArray, List.set_cons_zero, List.set_cons_succ, i64_w, i32_w]
            rfl
          refine pure_ (i := 1) (N := some 60) (v := ?_) (a' := ?_) #[true, true, false, false, false, false, false, false, false, false, false, false, false, false, false, false, false, false, false, false, false, false, false] rfl rfl (by kernel_rfl) (fun _ _ _ h => h) (Or.inl ⟨by rfl, ?_⟩) ?_ ?_
          rotate_left
          · intro w'
            go_simp
            with_reducible rfl
          rotate_left
          · simp only [Act.put, List.setIfInBounds_toArray, List.set_cons_zero, List.set_cons_succ, i64_w, i32_w]
            rfl
          refine pure_ (i := 3) (N := some 62) (v := ?_) (a' := ?_) #[true, true, false, true, false, false, false, false, false, false, false, false, false, false, false, false, false, false, false, false, false, false, false] rfl rfl (by kernel_rfl) (fun _ _ _ h => h) (Or.inl ⟨by rfl, ?_⟩) ?_ ?_
          rotate_left
          · intro w'
            go_simp
            with_reducible rfl
          rotate_left
          · simp only [Act.put, List.setIfInBounds_toArray, List.set_cons_zero, List.set_cons_succ, i64_w, i32_w]
            rfl
          refine pure_ (i := 6) (N := some 65) (v := ?_) (a' := ?_) #[true, true, false, true, false, false, true, false, false, false, false, false, false, false, false, false, false, false, false, false, false, false, false] rfl rfl (by kernel_rfl) (fun _ _ _ h => h) (Or.inl ⟨by rfl, ?_⟩) ?_ ?_
          rotate_left
          · intro w'
            go_simp
            with_reducible rfl
          rotate_left
          · simp only [Act.put, List.setIfInBounds_toArray, List.set_cons_zero, List.set_cons_succ, i64_w, i32_w]
            rfl
          refine take_ (i := 2) (N := some 61) (v := ?_) (a' := ?_) #[true, true, true, true, false, false, true, false, false, false, false, false, false, false, false, false, false, false, false, false, false, false, false] rfl rfl (by kernel_rfl) (fun _ _ _ h => h) (Or.inl ⟨by rfl, ?_⟩) hHeld ?_ ?_
          rotate_left
          · rintro w' ⟨s0, s1⟩
            go_simp
            with_reducible rfl
          rotate_left
          · simp only [Act.put, List.setIfInBounds_toArray, List.set_cons_zero, List.set_cons_succ, i64_w, i32_w]
            rfl
          refine take_ (i := 4) (N := some 63) (v := ?_) (a' := ?_) #[true, true, true, true, true, false, true, false, false, false, false, false, false, false, false, false, false, false, false, false, false, false, false] rfl rfl (by kernel_rfl) (fun _ _ _ h => h) (Or.inl ⟨by rfl, ?_⟩) hHeld ?_ ?_
          rotate_left
          · rintro w' ⟨s0, s1⟩
            go_simp
            with_reducible rfl
          rotate_left
          · simp only [Act.put, List.setIfInBounds_toArray, List.set_cons_zero, List.set_cons_succ, i64_w, i32_w]
            rfl
          refine one_ (i := 5) (N := some 64) #[true, true, true, true, true, true, true, false, false, false, false, false, false, false, false, false, false, false, false, false, false, false, false] rfl rfl (by kernel_rfl) (by decide) (fun K hK => ?_)
          refine goes_ Try.func17 (by kernel_rfl) rfl #[pv, .int .i64 x, .int .i64 y] (by rfl) rfl rfl (by simp only [List.map_toArray, List.map_cons, List.map_nil]; rfl) ?_
          with_reducible refine (HM6.out.join x y).mono ?_
          rintro e w7 ⟨rfl, hM7, hF7⟩
          refine ⟨_, rfl, ?_⟩
          rw [← HJ.out] at hM7
          have HM7 := Aside0.mk hM7
          have D0 := Aside0.mk (hF7.cell C0.out HNO.out)
          have D1 := Aside0.mk (hF7.cell C1.out HNO.out)
          clear hM7 hF7 HM6 C0 C1
          refine hK.out _ _ ⟨D0.out, D1.out⟩ (fun hHeld => ?_)
          clear hK K
          refine norm_ (a' := ?_) ?_ ?_
          rotate_left
          · show Act.put _ (some 64) _ = _
            simp only [Act.put, List.setIfInBounds_toArray, List.set_cons_zero, List.set_cons_succ, i64_w, i32_w]
            rfl
          refine pure_ (i := 7) (N := some 66) (v := ?_) (a' := ?_) #[true, true, true, true, true, true, true, true, false, false, false, false, false, false, false, false, false, false, false, false, false, false, false] rfl rfl (by kernel_rfl) (fun _ _ _ h => h) (Or.inl ⟨by rfl, ?_⟩) ?_ ?_
          rotate_left
          · intro w'
            go_simp
            with_reducible rfl
          rotate_left
          · simp only [Act.put, List.setIfInBounds_toArray, List.set_cons_zero, List.set_cons_succ, i64_w, i32_w]
            rfl
          refine pure_ (i := 8) (N := some 67) (v := ?_) (a' := ?_) #[true, true, true, true, true, true, true, true, true, false, false, false, false, false, false, false, false, false, false, false, false, false, false] rfl rfl (by kernel_rfl) (fun _ _ _ h => h) (Or.inl ⟨by rfl, ?_⟩) ?_ ?_
          rotate_left
          · intro w'
            go_simp
            with_reducible rfl
          rotate_left
          · simp only [Act.put, List.setIfInBounds_toArray, List.set_cons_zero, List.set_cons_succ, i64_w, i32_w]
            rfl
          refine pure_ (i := 9) (N := some 68) (v := ?_) (a' := ?_) #[true, true, true, true, true, true, true, true, true, true, false, false, false, false, false, false, false, false, false, false, false, false, false] rfl rfl (by kernel_rfl) (fun _ _ _ h => h) (Or.inl ⟨by rfl, ?_⟩) ?_ ?_
          rotate_left
          · intro w'
            go_simp
            with_reducible rfl
          rotate_left
          · simp only [Act.put, List.setIfInBounds_toArray, List.set_cons_zero, List.set_cons_succ, i64_w, i32_w]
            rfl
          refine pure_ (i := 10) (N := some 69) (v := ?_) (a' := ?_) #[true, true, true, true, true, true, true, true, true, true, true, false, false, false, false, false, false, false, false, false, false, false, false] rfl rfl (by kernel_rfl) (fun _ _ _ h => h) (Or.inl ⟨by rfl, ?_⟩) ?_ ?_
          rotate_left
          · intro w'
            go_simp
            with_reducible rfl
          rotate_left
          · simp only [Act.put, List.setIfInBounds_toArray, List.set_cons_zero, List.set_cons_succ, i64_w, i32_w]
            rfl
          refine pure_ (i := 11) (N := some 70) (v := ?_) (a' := ?_) #[true, true, true, true, true, true, true, true, true, true, true, true, false, false, false, false, false, false, false, false, false, false, false] rfl rfl (by kernel_rfl) (fun _ _ _ h => h) (Or.inl ⟨by rfl, ?_⟩) ?_ ?_
          rotate_left
          · intro w'
            go_simp
            with_reducible rfl
          rotate_left
          · simp only [Act.put, List.setIfInBounds_toArray, List.set_cons_zero, List.set_cons_succ, i64_w, i32_w]
            rfl
          refine pure_ (i := 12) (N := some 71) (v := ?_) (a' := ?_) #[true, true, true, true, true, true, true, true, true, true, true, true, true, false, false, false, false, false, false, false, false, false, false] rfl rfl (by kernel_rfl) (fun _ _ _ h => h) (Or.inl ⟨by rfl, ?_⟩) ?_ ?_
          rotate_left
          · intro w'
            go_simp
            with_reducible rfl
          rotate_left
          · simp only [Act.put, List.setIfInBounds_toArray, List.set_cons_zero, List.set_cons_succ, i64_w, i32_w]
            rfl
          refine pure_ (i := 14) (N := some 73) (v := ?_) (a' := ?_) #[true, true, true, true, true, true, true, true, true, true, true, true, true, false, true, false, false, false, false, false, false, false, false] rfl rfl (by kernel_rfl) (fun _ _ _ h => h) (Or.inl ⟨by rfl, ?_⟩) ?_ ?_
          rotate_left
          · intro w'
            go_simp
            with_reducible rfl
          rotate_left
          · simp only [Act.put, List.setIfInBounds_toArray, List.set_cons_zero, List.set_cons_succ, i64_w, i32_w]
            rfl
          refine pure_ (i := 16) (N := some 75) (v := ?_) (a' := ?_) #[true, true, true, true, true, true, true, true, true, true, true, true, true, false, true, false, true, false, false, false, false, false, false] rfl rfl (by kernel_rfl) (fun _ _ _ h => h) (Or.inl ⟨by rfl, ?_⟩) ?_ ?_
          rotate_left
          · intro w'
            go_simp
            with_reducible rfl
          rotate_left
          · simp only [Act.put, List.setIfInBounds_toArray, List.set_cons_zero, List.set_cons_succ, i64_w, i32_w]
            rfl
          refine take_ (i := 15) (N := some 74) (v := ?_) (a' := ?_) #[true, true, true, true, true, true, true, true, true, true, true, true, true, false, true, true, true, false, false, false, false, false, false] rfl rfl (by kernel_rfl) (fun _ _ _ h => h) (Or.inl ⟨by rfl, ?_⟩) hHeld ?_ ?_
          rotate_left
          · rintro w' ⟨s0, s1⟩
            go_simp
            with_reducible rfl
          rotate_left
          · simp only [Act.put, List.setIfInBounds_toArray, List.set_cons_zero, List.set_cons_succ, i64_w, i32_w]
            rfl
          refine take_ (i := 17) (N := some 76) (v := ?_) (a' := ?_) #[true, true, true, true, true, true, true, true, true, true, true, true, true, false, true, true, true, true, false, false, false, false, false] rfl rfl (by kernel_rfl) (fun _ _ _ h => h) (Or.inl ⟨by rfl, ?_⟩) hHeld ?_ ?_
          rotate_left
          · rintro w' ⟨s0, s1⟩
            go_simp
            with_reducible rfl
          rotate_left
          · simp only [Act.put, List.setIfInBounds_toArray, List.set_cons_zero, List.set_cons_succ, i64_w, i32_w]
            rfl
          refine join_ (σ := Value × Nat) 4 #[true, true, true, true, true, true, true, true, true, true, true, true, true, true, true, true, true, true, true, false, false, false, false] (fun s => [(72, s.1), (77, .slice (some ⟨s.2, 0, none⟩) 2 2)]) (fun s w' => Fk w7 x y xs s w') ?_ ?_
          rotate_left
          · intro hCont
            refine two_ (i := 13) (j := 18) (Ni := some 72) (Nj := some 77) #[true, true, true, true, true, true, true, true, true, true, true, true, true, true, true, true, true, true, false, false, false, false, false] #[true, true, true, true, true, true, true, true, true, true, true, true, true, false, true, true, true, true, true, false, false, false, false] rfl rfl rfl rfl (by kernel_rfl) (by decide) (by decide) (fun K hK => ?_) (fun K hK => ?_)
            · skip
              refine goes_ Try.func21 (by kernel_rfl) rfl #[.int .i64 ((ints m').length : Int)] (by rfl) rfl rfl (by simp only [List.map_toArray, List.map_cons, List.map_nil]; rfl) ?_
              with_reducible refine (tangramlaw05_few.calls kk _ xs _ HKK.out).mono ?_
              rintro e w8 ⟨v8, rfl, hR8, hb8⟩
              refine ⟨_, rfl, ?_⟩
              refine hK.out _ _ ⟨(hb8.cell (cell_block hHeld.1)).trans hHeld.1, (hb8.cell (cell_block hHeld.2)).trans hHeld.2⟩ (fun hHeld => ?_)
              clear hK K
              refine norm_ (a' := ?_) ?_ ?_
              rotate_left
              · show Act.put _ (some 72) _ = _
                simp only [Act.put, List.setIfInBounds_toArray, List.set_cons_zero, List.set_cons_succ, i64_w, i32_w]
                rfl
              refine one_ (i := 18) (N := some 77) #[true, true, true, true, true, true, true, true, true, true, true, true, true, true, true, true, true, true, true, false, false, false, false] rfl rfl (by kernel_rfl) (by decide) (fun K hK => ?_)
              refine value_ (w1 := ?_) (v := ?_) (by rfl) rfl ?_ ?_
              rotate_left 2
              · go_simp
                constructor
                · rfl
                · rfl
              refine hK.out _ _ ⟨(((Below.refl _ _).alloc (Nat.le_refl _) _).cell (cell_block hHeld.1)).trans hHeld.1, (((Below.refl _ _).alloc (Nat.le_refl _) _).cell (cell_block hHeld.2)).trans hHeld.2⟩ (fun hHeld => ?_)
              clear hK K
              refine norm_ (a' := ?_) ?_ ?_
              rotate_left
              · show Act.put _ (some 77) _ = _
                simp only [Act.put, List.setIfInBounds_toArray, List.set_cons_zero, List.set_cons_succ, i64_w, i32_w]
                rfl
              exact norm_ (by simp only [putAll, Act.put, List.setIfInBounds_toArray, List.set_cons_zero, List.set_cons_succ]) (hCont (v8, w8.heap.size) _ (Fk.one hR8 hb8))
            · skip
              refine value_ (w1 := ?_) (v := ?_) (by rfl) rfl ?_ ?_
              rotate_left 2
              · go_simp
                constructor
                · rfl
                · rfl
              refine hK.out _ _ ⟨(((Below.refl _ _).alloc (Nat.le_refl _) _).cell (cell_block hHeld.1)).trans hHeld.1, (((Below.refl _ _).alloc (Nat.le_refl _) _).cell (cell_block hHeld.2)).trans hHeld.2⟩ (fun hHeld => ?_)
              clear hK K
              refine norm_ (a' := ?_) ?_ ?_
              rotate_left
              · show Act.put _ (some 77) _ = _
                simp only [Act.put, List.setIfInBounds_toArray, List.set_cons_zero, List.set_cons_succ, i64_w, i32_w]
                rfl
              refine one_ (i := 13) (N := some 72) #[true, true, true, true, true, true, true, true, true, true, true, true, true, true, true, true, true, true, true, false, false, false, false] rfl rfl (by kernel_rfl) (by decide) (fun K hK => ?_)
              refine goes_ Try.func21 (by kernel_rfl) rfl #[.int .i64 ((ints m').length : Int)] (by rfl) rfl rfl (by simp only [List.map_toArray, List.map_cons, List.map_nil]; rfl) ?_
              with_reducible refine (tangramlaw05_few.calls kk _ xs _ HKK.out).mono ?_
              rintro e w8 ⟨v8, rfl, hR8, hb8⟩
              refine ⟨_, rfl, ?_⟩
              refine hK.out _ _ ⟨(hb8.cell (cell_block hHeld.1)).trans hHeld.1, (hb8.cell (cell_block hHeld.2)).trans hHeld.2⟩ (fun hHeld => ?_)
              clear hK K
              refine norm_ (a' := ?_) ?_ ?_
              rotate_left
              · show Act.put _ (some 72) _ = _
                simp only [Act.put, List.setIfInBounds_toArray, List.set_cons_zero, List.set_cons_succ, i64_w, i32_w]
                rfl
              exact norm_ (by simp only [putAll, Act.put, List.setIfInBounds_toArray, List.set_cons_zero, List.set_cons_succ]) (hCont (v8, w7.heap.size) _ (Fk.two hR8 hb8))
          rintro ⟨v9, b9⟩ w9 hF9
          have hF9 := Aside0.mk hF9
          have hHeld : w9.cell? ⟨b, 0, none⟩ = some (.int .i64 x) ∧ w9.cell? ⟨b, 1, none⟩ = some (.int .i64 y) := ⟨(hF9.out.2.2.1.cell (cell_block D0.out)).trans D0.out, (hF9.out.2.2.1.cell (cell_block D1.out)).trans D1.out⟩
          refine norm_ (a' := ?_) ?_ ?_
          rotate_left
          · simp only [putAll, Act.put, List.setIfInBounds_toArray, List.set_cons_zero, List.set_cons_succ]
            rfl
          refine one_ (i := 19) (N := some 78) #[true, true, true, true, true, true, true, true, true, true, true, true, true, true, true, true, true, true, true, true, false, false, false] rfl rfl (by kernel_rfl) (by decide) (fun K hK => ?_)
          refine Kd.R_append_rows_step (Kd.int .i64) (Rr := (Kd.int .i64).K w9) (w0 := w7) w7.heap.size (by rfl) (.tmp 72) (.tmp 77) 34 3 (.int .i64 0) 8 rfl Try.underlying34 info_int rfl (by decide) (by decide) v9 xs [x, y] (some ⟨b9, 0, none⟩) 2 2 (fun _ => True) (fun _ => False) rfl rfl (Kd.R_mono hF9.out.1 (fun _ _ => trivial)) (two_reads hF9.out.2.1) (fun _ _ h => h) (fun _ h => h.elim) (fun _ _ => trivial) hF9.out.2.2.1 hF9.out.2.2.1.size (by omega) ?_
          intro v10 w10 hR10 hb10 hg10 hat10
          obtain ⟨A10, c10, rfl, _, hst10⟩ := stay_of_R (own := own) hR10 (fun k hk _ e => by have := HM7.out.sx.hi k e; omega)
          have HS10 := Aside0.mk hst10
          have HM10 := Aside0.mk (HM7.out.below hb10)
          have E0 := Aside0.mk ((hb10.cell (cell_block D0.out)).trans D0.out)
          have E1 := Aside0.mk ((hb10.cell (cell_block D1.out)).trans D1.out)
          clear hR10 hb10 hg10 hat10 hst10 D0 D1 HM7 hF9
          refine hK.out _ _ ⟨E0.out, E1.out⟩ (fun hHeld => ?_)
          clear hK K
          refine norm_ (a' := ?_) ?_ ?_
          rotate_left
          · show Act.put _ (some 78) _ = _
            simp only [Act.put, List.setIfInBounds_toArray, List.set_cons_zero, List.set_cons_succ, i64_w, i32_w]
            rfl
          refine one_ (i := 20) (N := some 79) #[true, true, true, true, true, true, true, true, true, true, true, true, true, true, true, true, true, true, true, true, true, false, false] rfl rfl (by kernel_rfl) (by decide) (fun K hK => ?_)
          refine goes_ Try.func20 (by kernel_rfl) rfl #[pv, .slice A5 (ints m').length c5, .slice A10 (xs ++ [x, y]).length c10] (by rfl) rfl rfl (by simp only [List.map_toArray, List.map_cons, List.map_nil]; rfl) ?_
          with_reducible refine (tells_calls pv own m' A5 c5 A10 c10 (xs ++ [x, y]) w10 HM10.out.sx (by omega) HM10.out.stayed.2.2 HM10.out.stayed.2.1 HS10.out hxl2).mono ?_
          rintro e w11 ⟨rfl, hN11⟩
          refine ⟨_, rfl, ?_⟩
          have HM11 := Aside0.mk (HM10.out.now hN11)
          refine hK.out _ _ ⟨hN11.2.cell E0.out HNO.out, hN11.2.cell E1.out HNO.out⟩ (fun hHeld => ?_)
          clear hK K
          refine norm_ (a' := ?_) ?_ ?_
          rotate_left
          · show Act.put _ (some 79) _ = _
            simp only [Act.put, List.setIfInBounds_toArray, List.set_cons_zero, List.set_cons_succ, i64_w, i32_w]
            rfl
          refine pure_ (i := 21) (N := some 80) (v := ?_) (a' := ?_) #[true, true, true, true, true, true, true, true, true, true, true, true, true, true, true, true, true, true, true, true, true, true, false] rfl rfl (by kernel_rfl) (fun _ _ _ h => h) (Or.inl ⟨by rfl, ?_⟩) ?_ ?_
          rotate_left
          · intro w'
            go_simp
            with_reducible rfl
          rotate_left
          · simp only [Act.put, List.setIfInBounds_toArray, List.set_cons_zero, List.set_cons_succ, i64_w, i32_w]
            rfl
          refine pure_ (i := 22) (N := some 81) (v := ?_) (a' := ?_) #[true, true, true, true, true, true, true, true, true, true, true, true, true, true, true, true, true, true, true, true, true, true, true] rfl rfl (by kernel_rfl) (fun _ _ _ h => h) (Or.inl ⟨by rfl, ?_⟩) ?_ ?_
          rotate_left
          · intro w'
            go_simp
            with_reducible rfl
          rotate_left
          · simp only [Act.put, List.setIfInBounds_toArray, List.set_cons_zero, List.set_cons_succ, i64_w, i32_w]
            rfl
          refine done_ (by kernel_rfl) ?_
          clear HM10 HS10 E0 E1 HKK HJ HNO
          go_wp2_with fail
          go_roundw
          case rel => exact ⟨i + 1, m', by go_num, by omega, HPT2, HM11⟩
          case measure => simp [intOf]; omega
        · obtain rfl : i = es.length := by omega
          have hml : m.length ≤ 3000 := by obtain ⟨N, E, h1, h2⟩ := HPT.out; rw [h1.len]; exact h2
          obtain ⟨A5, c5, rfl, hc5, _⟩ := HM.out.stay
          clear hc5
          obtain ⟨kk, xs, hxl, hkk⟩ := PureR.few_ref (ints m).length
          have HKK := Aside0.mk hkk
          clear hkk
          go_wp2_with fail
          refine (tangramlaw05_few.calls kk _ xs _ HKK.out).mono ?_
          rintro e w8 ⟨v8, rfl, hR8, hb8⟩
          obtain ⟨A8, c8, rfl, _, hst8⟩ := stay_of_R (own := own) hR8 (fun k hk _ e => by have := HM.out.sx.hi k e; omega)
          have HS8 := Aside0.mk hst8
          have HM8 := Aside0.mk (HM.out.below hb8)
          clear hR8 hb8 hst8 HM HKK
          go_wp2_with fail
          refine (tells_calls pv own m A5 c5 A8 c8 xs w8 HM8.out.sx (by omega) HM8.out.stayed.2.2 HM8.out.stayed.2.1 HS8.out (by omega)).mono ?_
          rintro e w9 ⟨rfl, hN9⟩
          have HM9 := Aside0.mk (HM8.out.now hN9)
          clear hN9 HM8 HS8
          go_wp2_with fail
          refine (SNow.groups_ (w := w9) ⟨HM9.out.sx, Sets.Frame.refl _ _⟩ (by omega)).mono ?_
          rintro e w10 ⟨v10, rfl, hG10, hN10⟩
          obtain ⟨gs, hgs⟩ : ∃ gs, gs = (groupsOf m).map ints := ⟨_, rfl⟩
          rw [← hgs] at hG10
          have HGS := Aside0.mk hgs
          clear hgs
          obtain ⟨A10, c10, rfl, hl10, hC10⟩ := Kd.R_reads hG10
          have HM10 := Aside0.mk (HM9.out.now hN10)
          have HC10 := Aside0.mk hC10
          have HL10 := Aside0.mk hl10
          clear hG10 hN10 hC10 hl10 HM9
          have hgl : gs.length ≤ 3000 := by
            rw [HGS.out, List.length_map, groupsOf_length]
            have := numTo_le m m.length
            omega
          go_wp2_with fail
          obtain ⟨N, E, hpt, hN⟩ := HPT.out
          obtain ⟨kg, hkg⟩ := PureR.groups_ref hpt (by omega)
          rw [← HGS.out] at hkg
          refine (tangramref05_Groups.calls kg A5 c5 (ints m) _ w10 HM10.out.stayed.2.2.now HM10.out.stayed.2.1 hkg).mono ?_
          rintro e w11 ⟨v11, rfl, hS11, hb11⟩
          obtain ⟨A11, c11, rfl, hl11, hC11⟩ := Kd.S_reads hS11
          obtain ⟨kl, hkl⟩ := PureL.lists_same gs (by omega) (fun x hx => by rw [HGS.out] at hx; have := groupsOf_le hx; omega)
          have hsame := tangramref01_SameLists.calls kl A10 c10 _ A11 c11 _ true w11 (Kd.C_below HC10.out hb11) HL10.out hC11 hl11 hkl
          have HSA := Aside0.mk hsame
          have HM11 := Aside0.mk (HM10.out.below hb11)
          clear hsame hkl hC11 hl11 hS11 hb11 hkg hpt HC10 HL10 HM10
          go_wp2_with fail
          refine (HSA.out).mono ?_
          rintro e w12 ⟨rfl, ⟨dn, rfl⟩⟩
          go_wp2_with fail
          go_ret
          exact ⟨rfl, HM11.out.old.trans (((Sets.Frame.refl (fun _ => False) w11).drewN dn).below HM11.out.old.size (fun _ e => e.elim))⟩
    · obtain ⟨n, rfl⟩ := Int.eq_ofNat_of_zero_le (show 0 ≤ a0 by omega)
      have hn : n ≤ 3000 := by omega
      go_wp2_with fail
      repeat (go_quiet (fail); try go_wp2_with fail)
      refine (new_yes n _ (by omega)).mono ?_
      rintro e w2 ⟨p, bP, bS, rfl, hp1, hp2, hp3, hA, hb⟩
      have HM0 : Aside0 (Mid w w2 (.pointer (some ⟨p, 0, none⟩)) (Own p bP bS) (List.range n) [] (.slice none 0 0)) := ⟨.inl ⟨p, bP, bS, rfl, rfl, hA⟩, Kd.R_nil _ _ _ _ _, HB1.out.trans (hb.mono HB1.out.size), fun k hk => by have := HB1.out.size; unfold Own at hk; omega⟩
      have HPT : Aside0 (∃ N E, Part N E (List.range n) ∧ N ≤ 3000) := ⟨n, _, Part.range n, hn⟩
      clear hp1 hp2 hp3 hA hb HB1
      go_wp2_with fail
      obtain ⟨kn, hkn⟩ := PureR.new_ref n (by omega)
      refine (tangramref05_New.calls kn (n : Int) _ 0 w2 hkn).mono ?_
      rintro e w3 ⟨vm, rfl, hR, hb⟩
      have HM : Aside0 (Mid w w3 (.pointer (some ⟨p, 0, none⟩)) (Own p bP bS) (List.range n) (List.range n) vm) := ⟨by
        have h := HM0.out.below hb
        have hz := HM0.out.old.size
        exact ⟨h.sx, ⟨fun k hk e => by have h1 := (own_lt (Kd.own_of_R hR) hk).1; have h2 := HM0.out.sx.hi k e; omega, (Kd.R_lower hR hz).2⟩, h.old, h.lo⟩⟩
      clear HM0 hR hb hkn
      go_wp2_with fail
      repeat (go_quiet (fail); try go_wp2_with fail)
      obtain ⟨own, hown⟩ : ∃ own, own = Own p bP bS := ⟨_, rfl⟩
      obtain ⟨m0, hm0⟩ : ∃ m0, m0 = List.range n := ⟨_, rfl⟩
      rw [← hown, ← hm0] at HM
      rw [← hm0] at HPT
      clear hown hm0
      generalize Value.pointer (some ⟨p, 0, none⟩) = pv at HM ⊢
      go_loopw [7, 45] (fun vm v wr => ∃ (i : Nat) (m : List Nat), v = .int .i64 (i : Int) ∧ i ≤ es.length ∧ Aside0 (∃ N E, Part N E m ∧ N ≤ 3000) ∧ Aside0 (Mid w wr pv own m m vm)) (fun _ v _ => es.length - (intOf v).toNat)
      case atStart => exact ⟨0, m0, rfl, by omega, HPT, HM⟩
      case round =>
        clear HM HPT
        rename_i vm _
        obtain ⟨i, m, rfl, hi, HPT, HM⟩ := hrel
        by_cases hlt : i < es.length
        · obtain ⟨ad, eA, hx1, hx2⟩ := (HR1.out.below HM.out.old) i hlt
          subst eA
          obtain ⟨x, hx⟩ : ∃ x, x = (pe es i).1 := ⟨_, rfl⟩
          obtain ⟨y, hy⟩ : ∃ y, y = (pe es i).2 := ⟨_, rfl⟩
          rw [← hx] at hx1
          rw [← hy] at hx2
          clear hx hy
          have hml : m.length ≤ 3000 := by obtain ⟨N, E, h1, h2⟩ := HPT.out; rw [h1.len]; exact h2
          go_wp2_with fail
          have HM1 := Aside0.mk (HM.out.alloc (.cells #[.int .i64 x, .int .i64 y] 45 (0, 0)))
          refine (HM1.out.rjoin (by omega) x y).mono ?_
          rintro e w5 ⟨vm5, rfl, h5, hK⟩
          have X5 : Aside0 (w5.heap[wr.heap.size]? = some (.cells #[.int .i64 x, .int .i64 y] 45 (0, 0))) := ⟨(hK.2 _ (by simp) (fun e => by have := HM.out.vm_lt e; omega)).trans (heap_last _ _)⟩
          have HNO : Aside0 (¬ own wr.heap.size) := ⟨fun e => by have := HM.out.sx.hi _ e; omega⟩
          obtain ⟨b, hb⟩ : ∃ b, b = wr.heap.size := ⟨_, rfl⟩
          rw [← hb] at X5 HNO
          have HPT2 : Aside0 (∃ N E, Part N E (joinOf m x y).1 ∧ N ≤ 3000) := ⟨by obtain ⟨N, E, h1, h2⟩ := HPT.out; exact ⟨N, _, joinOf_part h1 x y, h2⟩⟩
          have hml2 : (joinOf m x y).1.length ≤ 3000 := by rw [joinOf_length]; exact hml
          have HM6 := Aside0.mk h5.drew
          obtain ⟨A5, c5, rfl, hc5, _⟩ := h5.stay
          obtain ⟨m', hm'⟩ : ∃ m', m' = (joinOf m x y).1 := ⟨_, rfl⟩
          rw [← hm'] at HM6 HPT2 hml2 ⊢
          clear h5 hK HM1 HM HPT hx1 hx2 hml hc5
          obtain ⟨kk, xs, hxl, hkk⟩ := PureR.few_ref (ints m').length
          have hxl2 : (xs ++ [x, y]).length ≤ 100 := by simp; omega
          have HKK := Aside0.mk hkk
          clear hkk
          have C0 : Aside0 (w5.drew.cell? ⟨b, 0, none⟩ = some (.int .i64 x)) := ⟨(blk_cell X5.out 0).trans rfl⟩
          have C1 : Aside0 (w5.drew.cell? ⟨b, 1, none⟩ = some (.int .i64 y)) := ⟨(blk_cell X5.out 1).trans rfl⟩
          rw [← hb]
          clear X5 hb
          have HJ := Aside0.mk hm'
          clear hm'
          go_wp2_with fail
          refine start_ (n := 23) (S := fun w' => w'.cell? ⟨b, 0, none⟩ = some (.int .i64 x) ∧ w'.cell? ⟨b, 1, none⟩ = some (.int .i64 y)) (ds := []) #[false, false, false, false, false, false, false, false, false, false, false, false, false, false, false, false, false, false, false, false, false, false, false] (by kernel_rfl) rfl rfl ⟨C0.out, C1.out⟩ (fun hHeld => ?_)
          refine pure_ (i := 0) (N := some 59) (v := ?_) (a' := ?_) #[true, false, false, false, false, false, false, false, false, false, false, false, false, false, false, false, false, false, false, false, false, false, false] rfl rfl (by kernel_rfl) (fun _ _ _ h => h) (Or.inl ⟨by rfl, ?_⟩) ?_ ?_
          rotate_left
          · intro w'
            go_simp
            with_reducible rfl
          rotate_left
          · simp only [Act.put, List.setIfInBounds_toArray, List.set_cons_zero, List.set_cons_succ, i64_w, i32_w]
            rfl
          refine pure_ (i := 1) (N := some 60) (v := ?_) (a' := ?_) #[true, true, false, false, false, false, false, false, false, false, false, false, false, false, false, false, false, false, false, false, false, false, false] rfl rfl (by kernel_rfl) (fun _ _ _ h => h) (Or.inl ⟨by rfl, ?_⟩) ?_ ?_
          rotate_left
          · intro w'
            go_simp
            with_reducible rfl
          rotate_left
          · simp only [Act.put, List.setIfInBounds_toArray, List.set_cons_zero, List.set_cons_succ, i64_w, i32_w]
            rfl
          refine pure_ (i := 3) (N := some 62) (v := ?_) (a' := ?_) #[true, true, false, true, false, false, false, false, false, false, false, false, false, false, false, false, false, false, false, false, false, false, false] rfl rfl (by kernel_rfl) (fun _ _ _ h => h) (Or.inl ⟨by rfl, ?_⟩) ?_ ?_
          rotate_left
          · intro w'
            go_simp
            with_reducible rfl
          rotate_left
          · simp only [Act.put, List.setIfInBounds_toArray, List.set_cons_zero, List.set_cons_succ, i64_w, i32_w]
            rfl
          refine pure_ (i := 6) (N := some 65) (v := ?_) (a' := ?_) #[true, true, false, true, false, false, true, false, false, false, false, false, false, false, false, false, false, false, false, false, false, false, false] rfl rfl (by kernel_rfl) (fun _ _ _ h => h) (Or.inl ⟨by rfl, ?_⟩) ?_ ?_
          rotate_left
          · intro w'
            go_simp
            with_reducible rfl
          rotate_left
          · simp only [Act.put, List.setIfInBounds_toArray, List.set_cons_zero, List.set_cons_succ, i64_w, i32_w]
            rfl
          refine take_ (i := 2) (N := some 61) (v := ?_) (a' := ?_) #[true, true, true, true, false, false, true, false, false, false, false, false, false, false, false, false, false, false, false, false, false, false, false] rfl rfl (by kernel_rfl) (fun _ _ _ h => h) (Or.inl ⟨by rfl, ?_⟩) hHeld ?_ ?_
          rotate_left
          · rintro w' ⟨s0, s1⟩
            go_simp
            with_reducible rfl
          rotate_left
          · simp only [Act.put, List.setIfInBounds_toArray, List.set_cons_zero, List.set_cons_succ, i64_w, i32_w]
            rfl
          refine take_ (i := 4) (N := some 63) (v := ?_) (a' := ?_) #[true, true, true, true, true, false, true, false, false, false, false, false, false, false, false, false, false, false, false, false, false, false, false] rfl rfl (by kernel_rfl) (fun _ _ _ h => h) (Or.inl ⟨by rfl, ?_⟩) hHeld ?_ ?_
          rotate_left
          · rintro w' ⟨s0, s1⟩
            go_simp
            with_reducible rfl
          rotate_left
          · simp only [Act.put, List.setIfInBounds_toArray, List.set_cons_zero, List.set_cons_succ, i64_w, i32_w]
            rfl
          refine one_ (i := 5) (N := some 64) #[true, true, true, true, true, true, true, false, false, false, false, false, false, false, false, false, false, false, false, false, false, false, false] rfl rfl (by kernel_rfl) (by decide) (fun K hK => ?_)
          refine goes_ Try.func17 (by kernel_rfl) rfl #[pv, .int .i64 x, .int .i64 y] (by rfl) rfl rfl (by simp only [List.map_toArray, List.map_cons, List.map_nil]; rfl) ?_
          with_reducible refine (HM6.out.join x y).mono ?_
          rintro e w7 ⟨rfl, hM7, hF7⟩
          refine ⟨_, rfl, ?_⟩
          rw [← HJ.out] at hM7
          have HM7 := Aside0.mk hM7
          have D0 := Aside0.mk (hF7.cell C0.out HNO.out)
          have D1 := Aside0.mk (hF7.cell C1.out HNO.out)
          clear hM7 hF7 HM6 C0 C1
          refine hK.out _ _ ⟨D0.out, D1.out⟩ (fun hHeld => ?_)
          clear hK K
          refine norm_ (a' := ?_) ?_ ?_
          rotate_left
          · show Act.put _ (some 64) _ = _
            simp only [Act.put, List.setIfInBounds_toArray, List.set_cons_zero, List.set_cons_succ, i64_w, i32_w]
            rfl
          refine pure_ (i := 7) (N := some 66) (v := ?_) (a' := ?_) #[true, true, true, true, true, true, true, true, false, false, false, false, false, false, false, false, false, false, false, false, false, false, false] rfl rfl (by kernel_rfl) (fun _ _ _ h => h) (Or.inl ⟨by rfl, ?_⟩) ?_ ?_
          rotate_left
          · intro w'
            go_simp
            with_reducible rfl
          rotate_left
          · simp only [Act.put, List.setIfInBounds_toArray, List.set_cons_zero, List.set_cons_succ, i64_w, i32_w]
            rfl
          refine pure_ (i := 8) (N := some 67) (v := ?_) (a' := ?_) #[true, true, true, true, true, true, true, true, true, false, false, false, false, false, false, false, false, false, false, false, false, false, false] rfl rfl (by kernel_rfl) (fun _ _ _ h => h) (Or.inl ⟨by rfl, ?_⟩) ?_ ?_
          rotate_left
          · intro w'
            go_simp
            with_reducible rfl
          rotate_left
          · simp only [Act.put, List.setIfInBounds_toArray, List.set_cons_zero, List.set_cons_succ, i64_w, i32_w]
            rfl
          refine pure_ (i := 9) (N := some 68) (v := ?_) (a' := ?_) #[true, true, true, true, true, true, true, true, true, true, false, false, false, false, false, false, false, false, false, false, false, false, false] rfl rfl (by kernel_rfl) (fun _ _ _ h => h) (Or.inl ⟨by rfl, ?_⟩) ?_ ?_
          rotate_left
          · intro w'
            go_simp
            with_reducible rfl
          rotate_left
          · simp only [Act.put, List.setIfInBounds_toArray, List.set_cons_zero, List.set_cons_succ, i64_w, i32_w]
            rfl
          refine pure_ (i := 10) (N := some 69) (v := ?_) (a' := ?_) #[true, true, true, true, true, true, true, true, true, true, true, false, false, false, false, false, false, false, false, false, false, false, false] rfl rfl (by kernel_rfl) (fun _ _ _ h => h) (Or.inl ⟨by rfl, ?_⟩) ?_ ?_
          rotate_left
          · intro w'
            go_simp
            with_reducible rfl
          rotate_left
          · simp only [Act.put, List.setIfInBounds_toArray, List.set_cons_zero, List.set_cons_succ, i64_w, i32_w]
            rfl
          refine pure_ (i := 11) (N := some 70) (v := ?_) (a' := ?_) #[true, true, true, true, true, true, true, true, true, true, true, true, false, false, false, false, false, false, false, false, false, false, false] rfl rfl (by kernel_rfl) (fun _ _ _ h => h) (Or.inl ⟨by rfl, ?_⟩) ?_ ?_
          rotate_left
          · intro w'
            go_simp
            with_reducible rfl
          rotate_left
          · simp only [Act.put, List.setIfInBounds_toArray, List.set_cons_zero, List.set_cons_succ, i64_w, i32_w]
            rfl
          refine pure_ (i := 12) (N := some 71) (v := ?_) (a' := ?_) #[true, true, true, true, true, true, true, true, true, true, true, true, true, false, false, false, false, false, false, false, false, false, false] rfl rfl (by kernel_rfl) (fun _ _ _ h => h) (Or.inl ⟨by rfl, ?_⟩) ?_ ?_
          rotate_left
          · intro w'
            go_simp
            with_reducible rfl
          rotate_left
          · simp only [Act.put, List.setIfInBounds_toArray, List.set_cons_zero, List.set_cons_succ, i64_w, i32_w]
            rfl
          refine pure_ (i := 14) (N := some 73) (v := ?_) (a' := ?_) #[true, true, true, true, true, true, true, true, true, true, true, true, true, false, true, false, false, false, false, false, false, false, false] rfl rfl (by kernel_rfl) (fun _ _ _ h => h) (Or.inl ⟨by rfl, ?_⟩) ?_ ?_
          rotate_left
          · intro w'
            go_simp
            with_reducible rfl
          rotate_left
          · simp only [Act.put, List.setIfInBounds_toArray, List.set_cons_zero, List.set_cons_succ, i64_w, i32_w]
            rfl
          refine pure_ (i := 16) (N := some 75) (v := ?_) (a' := ?_) #[true, true, true, true, true, true, true, true, true, true, true, true, true, false, true, false, true, false, false, false, false, false, false] rfl rfl (by kernel_rfl) (fun _ _ _ h => h) (Or.inl ⟨by rfl, ?_⟩) ?_ ?_
          rotate_left
          · intro w'
            go_simp
            with_reducible rfl
          rotate_left
          · simp only [Act.put, List.setIfInBounds_toArray, List.set_cons_zero, List.set_cons_succ, i64_w, i32_w]
            rfl
          refine take_ (i := 15) (N := some 74) (v := ?_) (a' := ?_) #[true, true, true, true, true, true, true, true, true, true, true, true, true, false, true, true, true, false, false, false, false, false, false] rfl rfl (by kernel_rfl) (fun _ _ _ h => h) (Or.inl ⟨by rfl, ?_⟩) hHeld ?_ ?_
          rotate_left
          · rintro w' ⟨s0, s1⟩
            go_simp
            with_reducible rfl
          rotate_left
          · simp only [Act.put, List.setIfInBounds_toArray, List.set_cons_zero, List.set_cons_succ, i64_w, i32_w]
            rfl
          refine take_ (i := 17) (N := some 76) (v := ?_) (a' := ?_) #[true, true, true, true, true, true, true, true, true, true, true, true, true, false, true, true, true, true, false, false, false, false, false] rfl rfl (by kernel_rfl) (fun _ _ _ h => h) (Or.inl ⟨by rfl, ?_⟩) hHeld ?_ ?_
          rotate_left
          · rintro w' ⟨s0, s1⟩
            go_simp
            with_reducible rfl
          rotate_left
          · simp only [Act.put, List.setIfInBounds_toArray, List.set_cons_zero, List.set_cons_succ, i64_w, i32_w]
            rfl
          refine join_ (σ := Value × Nat) 4 #[true, true, true, true, true, true, true, true, true, true, true, true, true, true, true, true, true, true, true, false, false, false, false] (fun s => [(72, s.1), (77, .slice (some ⟨s.2, 0, none⟩) 2 2)]) (fun s w' => Fk w7 x y xs s w') ?_ ?_
          rotate_left
          · intro hCont
            refine two_ (i := 13) (j := 18) (Ni := some 72) (Nj := some 77) #[true, true, true, true, true, true, true, true, true, true, true, true, true, true, true, true, true, true, false, false, false, false, false] #[true, true, true, true, true, true, true, true, true, true, true, true, true, false, true, true, true, true, true, false, false, false, false] rfl rfl rfl rfl (by kernel_rfl) (by decide) (by decide) (fun K hK => ?_) (fun K hK => ?_)
            · skip
              refine goes_ Try.func21 (by kernel_rfl) rfl #[.int .i64 ((ints m').length : Int)] (by rfl) rfl rfl (by simp only [List.map_toArray, List.map_cons, List.map_nil]; rfl) ?_
              with_reducible refine (tangramlaw05_few.calls kk _ xs _ HKK.out).mono ?_
              rintro e w8 ⟨v8, rfl, hR8, hb8⟩
              refine ⟨_, rfl, ?_⟩
              refine hK.out _ _ ⟨(hb8.cell (cell_block hHeld.1)).trans hHeld.1, (hb8.cell (cell_block hHeld.2)).trans hHeld.2⟩ (fun hHeld => ?_)
              clear hK K
              refine norm_ (a' := ?_) ?_ ?_
              rotate_left
              · show Act.put _ (some 72) _ = _
                simp only [Act.put, List.setIfInBounds_toArray, List.set_cons_zero, List.set_cons_succ, i64_w, i32_w]
                rfl
              refine one_ (i := 18) (N := some 77) #[true, true, true, true, true, true, true, true, true, true, true, true, true, true, true, true, true, true, true, false, false, false, false] rfl rfl (by kernel_rfl) (by decide) (fun K hK => ?_)
              refine value_ (w1 := ?_) (v := ?_) (by rfl) rfl ?_ ?_
              rotate_left 2
              · go_simp
                constructor
                · rfl
                · rfl
              refine hK.out _ _ ⟨(((Below.refl _ _).alloc (Nat.le_refl _) _).cell (cell_block hHeld.1)).trans hHeld.1, (((Below.refl _ _).alloc (Nat.le_refl _) _).cell (cell_block hHeld.2)).trans hHeld.2⟩ (fun hHeld => ?_)
              clear hK K
              refine norm_ (a' := ?_) ?_ ?_
              rotate_left
              · show Act.put _ (some 77) _ = _
                simp only [Act.put, List.setIfInBounds_toArray, List.set_cons_zero, List.set_cons_succ, i64_w, i32_w]
                rfl
              exact norm_ (by simp only [putAll, Act.put, List.setIfInBounds_toArray, List.set_cons_zero, List.set_cons_succ]) (hCont (v8, w8.heap.size) _ (Fk.one hR8 hb8))
            · skip
              refine value_ (w1 := ?_) (v := ?_) (by rfl) rfl ?_ ?_
              rotate_left 2
              · go_simp
                constructor
                · rfl
                · rfl
              refine hK.out _ _ ⟨(((Below.refl _ _).alloc (Nat.le_refl _) _).cell (cell_block hHeld.1)).trans hHeld.1, (((Below.refl _ _).alloc (Nat.le_refl _) _).cell (cell_block hHeld.2)).trans hHeld.2⟩ (fun hHeld => ?_)
              clear hK K
              refine norm_ (a' := ?_) ?_ ?_
              rotate_left
              · show Act.put _ (some 77) _ = _
                simp only [Act.put, List.setIfInBounds_toArray, List.set_cons_zero, List.set_cons_succ, i64_w, i32_w]
                rfl
              refine one_ (i := 13) (N := some 72) #[true, true, true, true, true, true, true, true, true, true, true, true, true, true, true, true, true, true, true, false, false, false, false] rfl rfl (by kernel_rfl) (by decide) (fun K hK => ?_)
              refine goes_ Try.func21 (by kernel_rfl) rfl #[.int .i64 ((ints m').length : Int)] (by rfl) rfl rfl (by simp only [List.map_toArray, List.map_cons, List.map_nil]; rfl) ?_
              with_reducible refine (tangramlaw05_few.calls kk _ xs _ HKK.out).mono ?_
              rintro e w8 ⟨v8, rfl, hR8, hb8⟩
              refine ⟨_, rfl, ?_⟩
              refine hK.out _ _ ⟨(hb8.cell (cell_block hHeld.1)).trans hHeld.1, (hb8.cell (cell_block hHeld.2)).trans hHeld.2⟩ (fun hHeld => ?_)
              clear hK K
              refine norm_ (a' := ?_) ?_ ?_
              rotate_left
              · show Act.put _ (some 72) _ = _
                simp only [Act.put, List.setIfInBounds_toArray, List.set_cons_zero, List.set_cons_succ, i64_w, i32_w]
                rfl
              exact norm_ (by simp only [putAll, Act.put, List.setIfInBounds_toArray, List.set_cons_zero, List.set_cons_succ]) (hCont (v8, w7.heap.size) _ (Fk.two hR8 hb8))
          rintro ⟨v9, b9⟩ w9 hF9
          have hF9 := Aside0.mk hF9
          have hHeld : w9.cell? ⟨b, 0, none⟩ = some (.int .i64 x) ∧ w9.cell? ⟨b, 1, none⟩ = some (.int .i64 y) := ⟨(hF9.out.2.2.1.cell (cell_block D0.out)).trans D0.out, (hF9.out.2.2.1.cell (cell_block D1.out)).trans D1.out⟩
          refine norm_ (a' := ?_) ?_ ?_
          rotate_left
          · simp only [putAll, Act.put, List.setIfInBounds_toArray, List.set_cons_zero, List.set_cons_succ]
            rfl
          refine one_ (i := 19) (N := some 78) #[true, true, true, true, true, true, true, true, true, true, true, true, true, true, true, true, true, true, true, true, false, false, false] rfl rfl (by kernel_rfl) (by decide) (fun K hK => ?_)
          refine Kd.R_append_rows_step (Kd.int .i64) (Rr := (Kd.int .i64).K w9) (w0 := w7) w7.heap.size (by rfl) (.tmp 72) (.tmp 77) 34 3 (.int .i64 0) 8 rfl Try.underlying34 info_int rfl (by decide) (by decide) v9 xs [x, y] (some ⟨b9, 0, none⟩) 2 2 (fun _ => True) (fun _ => False) rfl rfl (Kd.R_mono hF9.out.1 (fun _ _ => trivial)) (two_reads hF9.out.2.1) (fun _ _ h => h) (fun _ h => h.elim) (fun _ _ => trivial) hF9.out.2.2.1 hF9.out.2.2.1.size (by omega) ?_
          intro v10 w10 hR10 hb10 hg10 hat10
          obtain ⟨A10, c10, rfl, _, hst10⟩ := stay_of_R (own := own) hR10 (fun k hk _ e => by have := HM7.out.sx.hi k e; omega)
          have HS10 := Aside0.mk hst10
          have HM10 := Aside0.mk (HM7.out.below hb10)
          have E0 := Aside0.mk ((hb10.cell (cell_block D0.out)).trans D0.out)
          have E1 := Aside0.mk ((hb10.cell (cell_block D1.out)).trans D1.out)
          clear hR10 hb10 hg10 hat10 hst10 D0 D1 HM7 hF9
          refine hK.out _ _ ⟨E0.out, E1.out⟩ (fun hHeld => ?_)
          clear hK K
          refine norm_ (a' := ?_) ?_ ?_
          rotate_left
          · show Act.put _ (some 78) _ = _
            simp only [Act.put, List.setIfInBounds_toArray, List.set_cons_zero, List.set_cons_succ, i64_w, i32_w]
            rfl
          refine one_ (i := 20) (N := some 79) #[true, true, true, true, true, true, true, true, true, true, true, true, true, true, true, true, true, true, true, true, true, false, false] rfl rfl (by kernel_rfl) (by decide) (fun K hK => ?_)
          refine goes_ Try.func20 (by kernel_rfl) rfl #[pv, .slice A5 (ints m').length c5, .slice A10 (xs ++ [x, y]).length c10] (by rfl) rfl rfl (by simp only [List.map_toArray, List.map_cons, List.map_nil]; rfl) ?_
          with_reducible refine (tells_calls pv own m' A5 c5 A10 c10 (xs ++ [x, y]) w10 HM10.out.sx (by omega) HM10.out.stayed.2.2 HM10.out.stayed.2.1 HS10.out hxl2).mono ?_
          rintro e w11 ⟨rfl, hN11⟩
          refine ⟨_, rfl, ?_⟩
          have HM11 := Aside0.mk (HM10.out.now hN11)
          refine hK.out _ _ ⟨hN11.2.cell E0.out HNO.out, hN11.2.cell E1.out HNO.out⟩ (fun hHeld => ?_)
          clear hK K
          refine norm_ (a' := ?_) ?_ ?_
          rotate_left
          · show Act.put _ (some 79) _ = _
            simp only [Act.put, List.setIfInBounds_toArray, List.set_cons_zero, List.set_cons_succ, i64_w, i32_w]
            rfl
          refine pure_ (i := 21) (N := some 80) (v := ?_) (a' := ?_) #[true, true, true, true, true, true, true, true, true, true, true, true, true, true, true, true, true, true, true, true, true, true, false] rfl rfl (by kernel_rfl) (fun _ _ _ h => h) (Or.inl ⟨by rfl, ?_⟩) ?_ ?_
          rotate_left
          · intro w'
            go_simp
            with_reducible rfl
          rotate_left
          · simp only [Act.put, List.setIfInBounds_toArray, List.set_cons_zero, List.set_cons_succ, i64_w, i32_w]
            rfl
          refine pure_ (i := 22) (N := some 81) (v := ?_) (a' := ?_) #[true, true, true, true, true, true, true, true, true, true, true, true, true, true, true, true, true, true, true, true, true, true, true] rfl rfl (by kernel_rfl) (fun _ _ _ h => h) (Or.inl ⟨by rfl, ?_⟩) ?_ ?_
          rotate_left
          · intro w'
            go_simp
            with_reducible rfl
          rotate_left
          · simp only [Act.put, List.setIfInBounds_toArray, List.set_cons_zero, List.set_cons_succ, i64_w, i32_w]
            rfl
          refine done_ (by kernel_rfl) ?_
          clear HM10 HS10 E0 E1 HKK HJ HNO
          go_wp2_with fail
          go_roundw
          case rel => exact ⟨i + 1, m', by go_num, by omega, HPT2, HM11⟩
          case measure => simp [intOf]; omega
        · obtain rfl : i = es.length := by omega
          have hml : m.length ≤ 3000 := by obtain ⟨N, E, h1, h2⟩ := HPT.out; rw [h1.len]; exact h2
          obtain ⟨A5, c5, rfl, hc5, _⟩ := HM.out.stay
          clear hc5
          obtain ⟨kk, xs, hxl, hkk⟩ := PureR.few_ref (ints m).length
          have HKK := Aside0.mk hkk
          clear hkk
          go_wp2_with fail
          refine (tangramlaw05_few.calls kk _ xs _ HKK.out).mono ?_
          rintro e w8 ⟨v8, rfl, hR8, hb8⟩
          obtain ⟨A8, c8, rfl, _, hst8⟩ := stay_of_R (own := own) hR8 (fun k hk _ e => by have := HM.out.sx.hi k e; omega)
          have HS8 := Aside0.mk hst8
          have HM8 := Aside0.mk (HM.out.below hb8)
          clear hR8 hb8 hst8 HM HKK
          go_wp2_with fail
          refine (tells_calls pv own m A5 c5 A8 c8 xs w8 HM8.out.sx (by omega) HM8.out.stayed.2.2 HM8.out.stayed.2.1 HS8.out (by omega)).mono ?_
          rintro e w9 ⟨rfl, hN9⟩
          have HM9 := Aside0.mk (HM8.out.now hN9)
          clear hN9 HM8 HS8
          go_wp2_with fail
          refine (SNow.groups_ (w := w9) ⟨HM9.out.sx, Sets.Frame.refl _ _⟩ (by omega)).mono ?_
          rintro e w10 ⟨v10, rfl, hG10, hN10⟩
          obtain ⟨gs, hgs⟩ : ∃ gs, gs = (groupsOf m).map ints := ⟨_, rfl⟩
          rw [← hgs] at hG10
          have HGS := Aside0.mk hgs
          clear hgs
          obtain ⟨A10, c10, rfl, hl10, hC10⟩ := Kd.R_reads hG10
          have HM10 := Aside0.mk (HM9.out.now hN10)
          have HC10 := Aside0.mk hC10
          have HL10 := Aside0.mk hl10
          clear hG10 hN10 hC10 hl10 HM9
          have hgl : gs.length ≤ 3000 := by
            rw [HGS.out, List.length_map, groupsOf_length]
            have := numTo_le m m.length
            omega
          go_wp2_with fail
          obtain ⟨N, E, hpt, hN⟩ := HPT.out
          obtain ⟨kg, hkg⟩ := PureR.groups_ref hpt (by omega)
          rw [← HGS.out] at hkg
          refine (tangramref05_Groups.calls kg A5 c5 (ints m) _ w10 HM10.out.stayed.2.2.now HM10.out.stayed.2.1 hkg).mono ?_
          rintro e w11 ⟨v11, rfl, hS11, hb11⟩
          obtain ⟨A11, c11, rfl, hl11, hC11⟩ := Kd.S_reads hS11
          obtain ⟨kl, hkl⟩ := PureL.lists_same gs (by omega) (fun x hx => by rw [HGS.out] at hx; have := groupsOf_le hx; omega)
          have hsame := tangramref01_SameLists.calls kl A10 c10 _ A11 c11 _ true w11 (Kd.C_below HC10.out hb11) HL10.out hC11 hl11 hkl
          have HSA := Aside0.mk hsame
          have HM11 := Aside0.mk (HM10.out.below hb11)
          clear hsame hkl hC11 hl11 hS11 hb11 hkg hpt HC10 HL10 HM10
          go_wp2_with fail
          refine (HSA.out).mono ?_
          rintro e w12 ⟨rfl, ⟨dn, rfl⟩⟩
          go_wp2_with fail
          go_ret
          exact ⟨rfl, HM11.out.old.trans (((Sets.Frame.refl (fun _ => False) w11).drewN dn).below HM11.out.old.size (fun _ e => e.elim))⟩
end Go.Proofs.Ytoajoklpbfehiaa.PureX
