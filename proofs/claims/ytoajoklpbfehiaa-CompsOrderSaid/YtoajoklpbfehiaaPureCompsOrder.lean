/- DERIVED. The law CompsOrder, walked. -/
import Derived.Test.YtoajoklpbfehiaaSetsTwo
import Derived.Test.YtoajoklpbfehiaaPair
import Derived.Test.YtoajoklpbfehiaaLists
import Derived.Test.YtoajoklpbfehiaaOpen
import Derived.Test.YtoajoklpbfehiaaGAllx3
namespace Go.Proofs.Ytoajoklpbfehiaa.PureX
open Go.RowKit Go.Proofs.YtoajoklpbfehiaaW.PrintWords Go.Proofs.YtoajoklpbfehiaaW.PrintLast Go.Proofs.YtoajoklpbfehiaaW.PrintMore Go.Proofs.Ytoajoklpbfehiaa.GAll Go.Proofs.Ytoajoklpbfehiaa.Sets
set_option linter.unusedVariables false
set_option linter.unusedSimpArgs false
abbrev Pr := S45
/-- which joins were made already -/
def DoneAt (w : World) (d : Nat) (D : List Bool) : Prop := w.heap[d]? = some (.cells (D.map Value.bool).toArray 4 (0, 0))
theorem info_bool : (Try.prog.info? 4).map (fun i => (i.zero, i.size, i.bytes)) = some (some (.bool false), 1, 1) := by kernel_rfl
def bg (D : List Bool) (i : Nat) : Bool := D.getD i false
theorem DoneAt.start (w : World) (n : Nat) : DoneAt (w.alloc (.cells (Array.replicate n (Value.bool false)) 4 (0, 0))) w.heap.size (List.replicate n false) := by
  unfold DoneAt
  rw [heap_last]
  simp
theorem DoneAt.cell {w : World} {d : Nat} {D : List Bool} (h : DoneAt w d D) {i : Nat} (hi : i < D.length) : w.cell? ⟨d, i, none⟩ = some (.bool (bg D i)) := by
  unfold DoneAt at h
  simp [World.cell?, h, bg, List.getD_eq_getElem?_getD, hi]
theorem DoneAt.free {w : World} {d : Nat} {D : List Bool} (h : DoneAt w d D) (i : Nat) : w.frozen? ⟨d, i, none⟩ = false := by
  unfold DoneAt at h
  simp [World.frozen?, h]
theorem DoneAt.put {w : World} {d : Nat} {D : List Bool} (h : DoneAt w d D) (i : Nat) (b : Bool) : DoneAt (w.setCell ⟨d, i, none⟩ (.bool b)) d (D.set i b) := by
  unfold DoneAt at h ⊢
  rw [blk_setCell h]
  simp [List.map_set]

set_option maxHeartbeats 2000000 in
set_option maxRecDepth 100000 in
theorem CompsOrder (a0 : Int) (A1 : Option Addr) (c1 : Nat) (l1 : List Pr) (A2 : Option Addr) (c2 : Nat) (l2 : List Int) (w : World) (hr1 : Kd.C k45 w A1 l1.length l1) (hc1 : l1.length ≤ c1) (hr2 : Kd.C (Kd.int .i64) w A2 l2.length l2) (hc2 : l2.length ≤ c2)
    (g0 : Open.I64 a0) (g1 : l1.length * 16 ≤ 140737488351232 ∧ ∀ x ∈ l1, Open.I64 x.f0 ∧ Open.I64 x.f1) (g2 : l2.length * 8 ≤ 140737488351232 ∧ ∀ x ∈ l2, Open.I64 x) :
    Calls Try.prog 6 #[.int .i64 a0, .slice A1 l1.length c1, .slice A2 l2.length c2] w fun e w' => e = .returned (.bool true) ∧ Below w.heap.size w w' := by
  have HR1 := Aside0.mk (pair_pairs hr1)
  have HR2 := Aside0.mk hr2
  have hn1 : l1.length ≤ 8796093021952 := by omega
  have hn2 : l2.length ≤ 17592186043904 := by omega
  obtain ⟨es, hes⟩ : ∃ es, es = prs l1 := ⟨_, rfl⟩
  have hlen : l1.length = es.length := by rw [hes, prs_length]
  rw [← hes] at HR1
  rw [hlen] at hn1 ⊢
  clear hr1 hr2 g1 g2 hes hlen hc1 hc2 l1
  go_enter Try.func6, Try.ntmps6
  go_wp2_with fail
  refine (tangramlaw05_fixed.calls true _ rfl).mono ?_
  rintro e w1 ⟨rfl, hb⟩
  have HB1 := Aside0.mk hb
  clear hb
  by_cases n0 : a0 < 0
  · have n0b : decide (a0 < 0) = true := decide_eq_true n0
    clear n0
    go_wp2
    repeat (go_quiet (fail); try go_wp2)
    go_ret
    exact ⟨rfl, HB1.out⟩
  have n0b : decide (a0 < 0) = false := decide_eq_false n0
  by_cases n3 : a0 > 3000
  · have n3b : decide (a0 > 3000) = true := decide_eq_true n3
    clear n3 n0
    go_wp2
    repeat (go_quiet (fail); try go_wp2)
    go_ret
    exact ⟨rfl, HB1.out⟩
  have n3b : decide (a0 > 3000) = false := decide_eq_false n3
  obtain ⟨n, rfl⟩ := Int.eq_ofNat_of_zero_le (show 0 ≤ a0 by omega)
  have hn : n ≤ 3000 := by omega
  clear n0 n3
  go_wp2_with fail
  refine (new_yes n _ (by omega)).mono ?_
  rintro e w2 ⟨p, bP, bS, rfl, hp1, hp2, hp3, hA, hb⟩
  have hHi := hA.hi
  have hz1 := HB1.out.size
  have HB2 := Aside0.mk (HB1.out.trans (hb.mono hz1))
  have HA := Aside0.mk hA
  clear hb hA HB1
  go_wp2_with fail
  refine (new_yes n _ (by omega)).mono ?_
  rintro e w3 ⟨q, bQ, bT, rfl, hq1, hq2, hq3, hA, hb⟩
  have HT : Aside0 (Two w w3 p bP bS q bQ bT (joinAll (List.range n) (es.take 0)) (List.range n)) := ⟨HA.out.frame (S := fun k => w2.heap.size ≤ k) ⟨hb.os, hb.tape, hb.output, hb.size, fun i hi _ => hb.block i hi⟩ (fun k hk e => by unfold Own at hk; omega), hA, by omega, by omega, HB2.out.trans (hb.mono (by omega))⟩
  clear hb hA HB2 HA hHi hz1 hp1 hp2 hp3 hq1 hq2 hq3
  go_wp2_with fail
  repeat (go_quiet (fail); try go_wp2_with fail)
  go_loopw [11, 47] (fun y v wr => ∃ i : Nat, v = .int .i64 (i : Int) ∧ i ≤ es.length ∧ y = .int .i64 ((yesTo (List.range n) es i : Nat) : Int) ∧ Aside0 (Two w wr p bP bS q bQ bT (joinAll (List.range n) (es.take i)) (List.range n))) (fun _ v _ => es.length - (intOf v).toNat)
  case atStart => exact ⟨0, rfl, by omega, rfl, HT⟩
  case round =>
    clear HT
    obtain ⟨i, rfl, hi, rfl, HT⟩ := hrel
    by_cases hlt : i < es.length
    · obtain ⟨ad, eA, hx1, hx2⟩ := (HR1.out.below HT.out.old) i hlt
      subst eA
      go_wp2_with fail
      have HT2 := Aside0.mk (HT.out.alloc (.cells #[.int .i64 (pe es i).1, .int .i64 (pe es i).2] 45 (0, 0)))
      refine (HT2.out.join_s _ _).mono ?_
      rintro e w5 ⟨rfl, hT, hF⟩
      rw [← joinAll_take (List.range n) es hlt] at hT
      have HT3 := Aside0.mk hT
      clear hT hF HT HT2 hx1 hx2
      have hy : yesTo (List.range n) es (i + 1) = yesTo (List.range n) es i + if (joinOf (joinAll (List.range n) (es.take i)) (pe es i).1 (pe es i).2).2 = true then 1 else 0 := rfl
      have hy2 := sets_yes n es i (by omega)
      cases hj : (joinOf (joinAll (List.range n) (es.take i)) (pe es i).1 (pe es i).2).2 with
      | true =>
        rw [hj] at hy
        rw [if_pos rfl] at hy
        have hw : IntKind.i64.wrap (((yesTo (List.range n) es i : Nat) : Int) + 1) = ((yesTo (List.range n) es (i + 1) : Nat) : Int) := by rw [hy, IntWalk.i64_in _ (by omega)]; omega
        clear hy hy2 hj
        go_wp2_with fail
        go_roundw
        case rel => exact ⟨i + 1, by go_num, by omega, rfl, HT3⟩
        case measure => simp [intOf]; omega
      | false =>
        rw [hj] at hy
        rw [if_neg (by decide)] at hy
        clear hy2 hj
        go_wp2_with fail
        go_roundw
        case rel => exact ⟨i + 1, by go_num, by omega, by rw [hy]; rfl, HT3⟩
        case measure => simp [intOf]; omega
    · obtain rfl : i = es.length := by omega
      rw [List.take_length] at HT
      have hy2 := sets_yes n es es.length (by omega)
      rw [List.take_length] at hy2
      obtain ⟨y, hy⟩ : ∃ y, y = yesTo (List.range n) es es.length := ⟨_, rfl⟩
      rw [← hy] at hy2 ⊢
      have HY := Aside0.mk hy2
      clear hy hy2
      have mk1 := print_make_of (P := Try.prog) 55 4 (.bool false) 1 Try.underlying55 info_bool rfl (by decide) es.length (by omega)
      rw [show madeCells #[.bool false] es.length = Array.replicate es.length (Value.bool false) from ?hmade] at mk1
      case hmade =>
        apply Array.ext
        · simp [madeCells]
        · intro i h1 h2
          simp [madeCells, Nat.mod_one]
      go_wp2_with fail
      clear mk1
      have HTa := Aside0.mk (HT.out.alloc (.cells (Array.replicate es.length (Value.bool false)) 4 (0, 0)))
      have HD := Aside0.mk (show DoneAt (wr.alloc (.cells (Array.replicate es.length (Value.bool false)) 4 (0, 0))) wr.heap.size (List.replicate es.length false) from DoneAt.start wr _)
      have hd1 := HT.out.s.hi
      have hd2 := HT.out.t.hi
      have hd3 := HT.out.old.size
      obtain ⟨d, hd⟩ : ∃ d, d = wr.heap.size := ⟨_, rfl⟩
      rw [← hd] at hd1 hd2 hd3 HD ⊢
      clear hd HT
      generalize wr.alloc (.cells (Array.replicate es.length (Value.bool false)) 4 (0, 0)) = w4 at HD HTa ⊢
      obtain ⟨ms, hms⟩ : ∃ ms, ms = joinAll (List.range n) es := ⟨_, rfl⟩
      rw [← hms] at HTa HY
      have HMS := Aside0.mk hms
      have hnd : ¬ Own2 p bP bS q bQ bT d := fun e => by unfold Own2 Own at e; omega
      clear hms hd1 hd2
      go_loopw [65] (fun v wr => ∃ (i : Nat) (mt : List Nat) (D : List Bool), v = .int .i64 (i : Int) ∧ i ≤ l2.length ∧ D.length = es.length ∧ Aside0 (Sub n es mt) ∧ Aside0 (DoneAt wr d D) ∧ Aside0 (Two w wr p bP bS q bQ bT ms mt)) (fun v _ => l2.length - (intOf v).toNat)
      case atStart => exact ⟨0, _, _, rfl, by omega, List.length_replicate, ⟨Sub.start n es⟩, HD, HTa⟩
      case round =>
        clear HD HTa
        obtain ⟨k, mt, D, rfl, hk, hDl, HS, HD, HT⟩ := hrel
        by_cases hlt : k < l2.length
        · obtain ⟨ad, eA, hx⟩ := Kd.at_int (Kd.C_below HR2.out HT.out.old) (k : Int) (by omega) (by omega)
          subst eA
          rw [Int.toNat_natCast] at hx
          obtain ⟨o, ho⟩ : ∃ o, o = rd l2 (k : Int) := ⟨_, rfl⟩
          rw [← ho] at hx
          clear ho
          by_cases o0 : o < 0
          · have o0b : decide (0 ≤ o) = false := decide_eq_false (by omega)
            clear o0
            go_wp2_with fail
            repeat (go_quiet (fail); try go_wp2_with fail)
            go_roundw
            case rel => exact ⟨k + 1, mt, D, by go_num, by omega, hDl, HS, HD, HT⟩
            case measure => simp [intOf]; omega
          have o0b : decide (0 ≤ o) = true := decide_eq_true (by omega)
          by_cases o1 : (es.length : Int) ≤ o
          · have o1b : decide (o < (es.length : Int)) = false := decide_eq_false (by omega)
            clear o0 o1
            go_wp2_with fail
            repeat (go_quiet (fail); try go_wp2_with fail)
            go_roundw
            case rel => exact ⟨k + 1, mt, D, by go_num, by omega, hDl, HS, HD, HT⟩
            case measure => simp [intOf]; omega
          have o1b : decide (o < (es.length : Int)) = true := decide_eq_true (by omega)
          obtain ⟨j, rfl⟩ := Int.eq_ofNat_of_zero_le (show 0 ≤ o by omega)
          have hj : j < es.length := by omega
          clear o0 o1
          have hc := HD.out.cell (i := j) (by omega)
          have hf := HD.out.free j
          cases hb : bg D j with
          | true =>
            rw [hb] at hc
            clear hb hf
            go_wp2_with fail
            repeat (go_quiet (fail); try go_wp2_with fail)
            go_roundw
            case rel => exact ⟨k + 1, mt, D, by go_num, by omega, hDl, HS, HD, HT⟩
            case measure => simp [intOf]; omega
          | false =>
            rw [hb] at hc
            clear hb
            have HD2 := Aside0.mk (HD.out.put j true)
            have HT2 := Aside0.mk (HT.out.put (b := d) (i := j) (.bool true) hd3 hnd)
            obtain ⟨ad2, eA2, hx1, hx2⟩ := (HR1.out.below HT2.out.old) j hj
            subst eA2
            have X1 := Aside0.mk hx1
            have X2 := Aside0.mk hx2
            clear hx1 hx2 HD HT
            go_wp2_with fail
            repeat (go_quiet (fail); try go_wp2_with fail)
            refine start_ (n := 12) (S := fun w' => w'.cell? (ad2.add (j * 2)) = some (.int .i64 (pe es j).1) ∧ w'.cell? ⟨(ad2.add (j * 2)).block, (ad2.add (j * 2)).off + 1, none⟩ = some (.int .i64 (pe es j).2) ∧ Aside0 (Two w w' p bP bS q bQ bT ms mt) ∧ Aside0 (DoneAt w' d (D.set j true))) (ds := [11]) #[false, false, false, false, false, false, false, false, false, false, false, false] (by kernel_rfl) rfl rfl ⟨X1.out, X2.out, ⟨HT2.out.drew⟩, ⟨HD2.out⟩⟩ (fun hHeld => ?_)
            refine pure_ (i := 0) (N := some 87) (v := ?_) (a' := ?_) #[true, false, false, false, false, false, false, false, false, false, false, false] rfl rfl (by kernel_rfl) (fun _ _ _ h => h) (Or.inl ⟨by rfl, ?_⟩) ?_ ?_
            rotate_left
            · intro w'
              go_simp
              with_reducible rfl
            rotate_left
            · simp only [Act.put, List.setIfInBounds_toArray, List.set_cons_zero, List.set_cons_succ, i64_w, i32_w]
              rfl
            refine pure_ (i := 1) (N := some 88) (v := ?_) (a' := ?_) #[true, true, false, false, false, false, false, false, false, false, false, false] rfl rfl (by kernel_rfl) (fun _ _ _ h => h) (Or.inl ⟨by rfl, ?_⟩) ?_ ?_
            rotate_left
            · intro w'
              go_simp
              with_reducible rfl
            rotate_left
            · simp only [Act.put, List.setIfInBounds_toArray, List.set_cons_zero, List.set_cons_succ, i64_w, i32_w]
              rfl
            refine pure_ (i := 2) (N := some 89) (v := ?_) (a' := ?_) #[true, true, true, false, false, false, false, false, false, false, false, false] rfl rfl (by kernel_rfl) (fun _ _ _ h => h) (Or.inl ⟨by rfl, ?_⟩) ?_ ?_
            rotate_left
            · intro w'
              go_simp
              with_reducible rfl
            rotate_left
            · simp only [Act.put, List.setIfInBounds_toArray, List.set_cons_zero, List.set_cons_succ, i64_w, i32_w]
              rfl
            refine pure_ (i := 3) (N := some 90) (v := ?_) (a' := ?_) #[true, true, true, true, false, false, false, false, false, false, false, false] rfl rfl (by kernel_rfl) (fun _ _ _ h => h) (Or.inl ⟨by rfl, ?_⟩) ?_ ?_
            rotate_left
            · intro w'
              go_simp
              with_reducible rfl
            rotate_left
            · simp only [Act.put, List.setIfInBounds_toArray, List.set_cons_zero, List.set_cons_succ, i64_w, i32_w]
              rfl
            refine pure_ (i := 4) (N := some 91) (v := ?_) (a' := ?_) #[true, true, true, true, true, false, false, false, false, false, false, false] rfl rfl (by kernel_rfl) (fun _ _ _ h => h) (Or.inl ⟨by rfl, ?_⟩) ?_ ?_
            rotate_left
            · intro w'
              go_simp
              with_reducible rfl
            rotate_left
            · simp only [Act.put, List.setIfInBounds_toArray, List.set_cons_zero, List.set_cons_succ, i64_w, i32_w]
              rfl
            refine pure_ (i := 6) (N := some 93) (v := ?_) (a' := ?_) #[true, true, true, true, true, false, true, false, false, false, false, false] rfl rfl (by kernel_rfl) (fun _ _ _ h => h) (Or.inl ⟨by rfl, ?_⟩) ?_ ?_
            rotate_left
            · intro w'
              go_simp
              with_reducible rfl
            rotate_left
            · simp only [Act.put, List.setIfInBounds_toArray, List.set_cons_zero, List.set_cons_succ, i64_w, i32_w]
              rfl
            refine pure_ (i := 7) (N := some 94) (v := ?_) (a' := ?_) #[true, true, true, true, true, false, true, true, false, false, false, false] rfl rfl (by kernel_rfl) (fun _ _ _ h => h) (Or.inl ⟨by rfl, ?_⟩) ?_ ?_
            rotate_left
            · intro w'
              go_simp
              with_reducible rfl
            rotate_left
            · simp only [Act.put, List.setIfInBounds_toArray, List.set_cons_zero, List.set_cons_succ, i64_w, i32_w]
              rfl
            refine pure_ (i := 8) (N := some 95) (v := ?_) (a' := ?_) #[true, true, true, true, true, false, true, true, true, false, false, false] rfl rfl (by kernel_rfl) (fun _ _ _ h => h) (Or.inl ⟨by rfl, ?_⟩) ?_ ?_
            rotate_left
            · intro w'
              go_simp
              with_reducible rfl
            rotate_left
            · simp only [Act.put, List.setIfInBounds_toArray, List.set_cons_zero, List.set_cons_succ, i64_w, i32_w]
              rfl
            refine pure_ (i := 9) (N := some 96) (v := ?_) (a' := ?_) #[true, true, true, true, true, false, true, true, true, true, false, false] rfl rfl (by kernel_rfl) (fun _ _ _ h => h) (Or.inl ⟨by rfl, ?_⟩) ?_ ?_
            rotate_left
            · intro w'
              go_simp
              with_reducible rfl
            rotate_left
            · simp only [Act.put, List.setIfInBounds_toArray, List.set_cons_zero, List.set_cons_succ, i64_w, i32_w]
              rfl
            refine take_ (i := 5) (N := some 92) (v := ?_) (a' := ?_) #[true, true, true, true, true, true, true, true, true, true, false, false] rfl rfl (by kernel_rfl) (fun _ _ _ h => h) (Or.inl ⟨by rfl, ?_⟩) hHeld ?_ ?_
            rotate_left
            · rintro w' ⟨s0, s1, s2, s3⟩
              go_simp
              with_reducible rfl
            rotate_left
            · simp only [Act.put, List.setIfInBounds_toArray, List.set_cons_zero, List.set_cons_succ, i64_w, i32_w]
              rfl
            refine take_ (i := 10) (N := some 97) (v := ?_) (a' := ?_) #[true, true, true, true, true, true, true, true, true, true, true, false] rfl rfl (by kernel_rfl) (fun _ _ _ h => h) (Or.inl ⟨by rfl, ?_⟩) hHeld ?_ ?_
            rotate_left
            · rintro w' ⟨s0, s1, s2, s3⟩
              go_simp
              with_reducible rfl
            rotate_left
            · simp only [Act.put, List.setIfInBounds_toArray, List.set_cons_zero, List.set_cons_succ, i64_w, i32_w]
              rfl
            refine last_ (i := 11) (N := some 98) #[true, true, true, true, true, true, true, true, true, true, true, true] rfl rfl (by kernel_rfl) (by decide) (fun K hK => ?_)
            obtain ⟨h1, h2, h3, h4⟩ := hHeld
            refine goes_ Try.func17 (by kernel_rfl) rfl #[.pointer (some ⟨q, 0, none⟩), .int .i64 (pe es j).2, .int .i64 (pe es j).1] (by rfl) rfl rfl (by simp only [List.map_toArray, List.map_cons, List.map_nil]; rfl) ?_
            with_reducible refine (h3.out.join_t _ _).mono ?_
            rintro e w3 ⟨rfl, hT, hF⟩
            refine ⟨_, rfl, ?_⟩
            have HT3 := Aside0.mk hT
            have HD3 : Aside0 (DoneAt w3 d (D.set j true)) := ⟨hF.blk h4.out hnd⟩
            clear hT hF h1 h2 h3 h4
            refine hK.out _ _ ?_
            clear hK K
            refine norm_ (a' := ?_) ?_ ?_
            rotate_left
            · show Act.put _ (some 98) _ = _
              simp only [Act.put, List.setIfInBounds_toArray, List.set_cons_zero, List.set_cons_succ, i64_w, i32_w]
              rfl
            refine done_ (by kernel_rfl) ?_
            have HS2 := Aside0.mk (HS.out.join hj)
            clear HS
            go_wp2_with fail
            go_roundw
            case rel => exact ⟨k + 1, _, _, by go_num, by omega, by rw [List.length_set]; exact hDl, HS2, HD3, HT3⟩
            case measure => simp [intOf]; omega
        · obtain rfl : k = l2.length := by omega
          have HC0 := Aside0.mk HS.out.cov
          have hw0 : IntKind.i64.wrap ((es.length : Int) - 1) = (es.length : Int) - 1 := IntWalk.i64_in _ (by omega)
          clear HS HD
          go_wp2_with fail
          clear hw0
          go_loopw [17] (fun v wr => ∃ (i : Nat) (mt : List Nat) (x : Int), v = .int .i64 x ∧ x = (i : Int) - 1 ∧ i ≤ es.length ∧ Aside0 (Cov n es i mt) ∧ Aside0 (Two w wr p bP bS q bQ bT ms mt)) (fun v _ => (intOf v + 1).toNat)
          case atStart => exact ⟨es.length, mt, _, rfl, rfl, by omega, HC0, HT⟩
          case round =>
            clear HC0 HT
            obtain ⟨i, mt, x, rfl, hx, hi, HC, HT⟩ := hrel
            cases i with
            | succ j =>
              obtain rfl : x = (j : Int) := by omega
              have hj : j < es.length := by omega
              clear hx
              have hg : decide (0 ≤ (j : Int)) = true := decide_eq_true (by omega)
              have hw : IntKind.i64.wrap ((j : Int) - 1) = (j : Int) - 1 := IntWalk.i64_in _ (by omega)
              obtain ⟨ad2, eA2, hx1, hx2⟩ := (HR1.out.below HT.out.old) j hj
              subst eA2
              have X1 := Aside0.mk hx1
              have X2 := Aside0.mk hx2
              clear hx1 hx2
              go_wp2_with fail
              refine start_ (n := 12) (S := fun w' => w'.cell? (ad2.add (j * 2)) = some (.int .i64 (pe es j).1) ∧ w'.cell? ⟨(ad2.add (j * 2)).block, (ad2.add (j * 2)).off + 1, none⟩ = some (.int .i64 (pe es j).2) ∧ Aside0 (Two w w' p bP bS q bQ bT ms mt)) (ds := [11]) #[false, false, false, false, false, false, false, false, false, false, false, false] (by kernel_rfl) rfl rfl ⟨X1.out, X2.out, ⟨HT.out.drew⟩⟩ (fun hHeld => ?_)
              refine pure_ (i := 0) (N := some 107) (v := ?_) (a' := ?_) #[true, false, false, false, false, false, false, false, false, false, false, false] rfl rfl (by kernel_rfl) (fun _ _ _ h => h) (Or.inl ⟨by rfl, ?_⟩) ?_ ?_
              rotate_left
              · intro w'
                go_simp
                with_reducible rfl
              rotate_left
              · simp only [Act.put, List.setIfInBounds_toArray, List.set_cons_zero, List.set_cons_succ, i64_w, i32_w]
                rfl
              refine pure_ (i := 1) (N := some 108) (v := ?_) (a' := ?_) #[true, true, false, false, false, false, false, false, false, false, false, false] rfl rfl (by kernel_rfl) (fun _ _ _ h => h) (Or.inl ⟨by rfl, ?_⟩) ?_ ?_
              rotate_left
              · intro w'
                go_simp
                with_reducible rfl
              rotate_left
              · simp only [Act.put, List.setIfInBounds_toArray, List.set_cons_zero, List.set_cons_succ, i64_w, i32_w]
                rfl
              refine pure_ (i := 2) (N := some 109) (v := ?_) (a' := ?_) #[true, true, true, false, false, false, false, false, false, false, false, false] rfl rfl (by kernel_rfl) (fun _ _ _ h => h) (Or.inl ⟨by rfl, ?_⟩) ?_ ?_
              rotate_left
              · intro w'
                go_simp
                with_reducible rfl
              rotate_left
              · simp only [Act.put, List.setIfInBounds_toArray, List.set_cons_zero, List.set_cons_succ, i64_w, i32_w]
                rfl
              refine pure_ (i := 3) (N := some 110) (v := ?_) (a' := ?_) #[true, true, true, true, false, false, false, false, false, false, false, false] rfl rfl (by kernel_rfl) (fun _ _ _ h => h) (Or.inl ⟨by rfl, ?_⟩) ?_ ?_
              rotate_left
              · intro w'
                go_simp
                with_reducible rfl
              rotate_left
              · simp only [Act.put, List.setIfInBounds_toArray, List.set_cons_zero, List.set_cons_succ, i64_w, i32_w]
                rfl
              refine pure_ (i := 4) (N := some 111) (v := ?_) (a' := ?_) #[true, true, true, true, true, false, false, false, false, false, false, false] rfl rfl (by kernel_rfl) (fun _ _ _ h => h) (Or.inl ⟨by rfl, ?_⟩) ?_ ?_
              rotate_left
              · intro w'
                go_simp
                with_reducible rfl
              rotate_left
              · simp only [Act.put, List.setIfInBounds_toArray, List.set_cons_zero, List.set_cons_succ, i64_w, i32_w]
                rfl
              refine pure_ (i := 6) (N := some 113) (v := ?_) (a' := ?_) #[true, true, true, true, true, false, true, false, false, false, false, false] rfl rfl (by kernel_rfl) (fun _ _ _ h => h) (Or.inl ⟨by rfl, ?_⟩) ?_ ?_
              rotate_left
              · intro w'
                go_simp
                with_reducible rfl
              rotate_left
              · simp only [Act.put, List.setIfInBounds_toArray, List.set_cons_zero, List.set_cons_succ, i64_w, i32_w]
                rfl
              refine pure_ (i := 7) (N := some 114) (v := ?_) (a' := ?_) #[true, true, true, true, true, false, true, true, false, false, false, false] rfl rfl (by kernel_rfl) (fun _ _ _ h => h) (Or.inl ⟨by rfl, ?_⟩) ?_ ?_
              rotate_left
              · intro w'
                go_simp
                with_reducible rfl
              rotate_left
              · simp only [Act.put, List.setIfInBounds_toArray, List.set_cons_zero, List.set_cons_succ, i64_w, i32_w]
                rfl
              refine pure_ (i := 8) (N := some 115) (v := ?_) (a' := ?_) #[true, true, true, true, true, false, true, true, true, false, false, false] rfl rfl (by kernel_rfl) (fun _ _ _ h => h) (Or.inl ⟨by rfl, ?_⟩) ?_ ?_
              rotate_left
              · intro w'
                go_simp
                with_reducible rfl
              rotate_left
              · simp only [Act.put, List.setIfInBounds_toArray, List.set_cons_zero, List.set_cons_succ, i64_w, i32_w]
                rfl
              refine pure_ (i := 9) (N := some 116) (v := ?_) (a' := ?_) #[true, true, true, true, true, false, true, true, true, true, false, false] rfl rfl (by kernel_rfl) (fun _ _ _ h => h) (Or.inl ⟨by rfl, ?_⟩) ?_ ?_
              rotate_left
              · intro w'
                go_simp
                with_reducible rfl
              rotate_left
              · simp only [Act.put, List.setIfInBounds_toArray, List.set_cons_zero, List.set_cons_succ, i64_w, i32_w]
                rfl
              refine take_ (i := 5) (N := some 112) (v := ?_) (a' := ?_) #[true, true, true, true, true, true, true, true, true, true, false, false] rfl rfl (by kernel_rfl) (fun _ _ _ h => h) (Or.inl ⟨by rfl, ?_⟩) hHeld ?_ ?_
              rotate_left
              · rintro w' ⟨s0, s1, s2⟩
                go_simp
                with_reducible rfl
              rotate_left
              · simp only [Act.put, List.setIfInBounds_toArray, List.set_cons_zero, List.set_cons_succ, i64_w, i32_w]
                rfl
              refine take_ (i := 10) (N := some 117) (v := ?_) (a' := ?_) #[true, true, true, true, true, true, true, true, true, true, true, false] rfl rfl (by kernel_rfl) (fun _ _ _ h => h) (Or.inl ⟨by rfl, ?_⟩) hHeld ?_ ?_
              rotate_left
              · rintro w' ⟨s0, s1, s2⟩
                go_simp
                with_reducible rfl
              rotate_left
              · simp only [Act.put, List.setIfInBounds_toArray, List.set_cons_zero, List.set_cons_succ, i64_w, i32_w]
                rfl
              refine last_ (i := 11) (N := some 118) #[true, true, true, true, true, true, true, true, true, true, true, true] rfl rfl (by kernel_rfl) (by decide) (fun K hK => ?_)
              obtain ⟨h1, h2, h3⟩ := hHeld
              refine goes_ Try.func17 (by kernel_rfl) rfl #[.pointer (some ⟨q, 0, none⟩), .int .i64 (pe es j).1, .int .i64 (pe es j).2] (by rfl) rfl rfl (by simp only [List.map_toArray, List.map_cons, List.map_nil]; rfl) ?_
              with_reducible refine (h3.out.join_t _ _).mono ?_
              rintro e w3 ⟨rfl, hT, hF⟩
              refine ⟨_, rfl, ?_⟩
              have HT3 := Aside0.mk hT
              clear hT hF h1 h2 h3
              refine hK.out _ _ ?_
              clear hK K
              refine norm_ (a' := ?_) ?_ ?_
              rotate_left
              · show Act.put _ (some 118) _ = _
                simp only [Act.put, List.setIfInBounds_toArray, List.set_cons_zero, List.set_cons_succ, i64_w, i32_w]
                rfl
              refine done_ (by kernel_rfl) ?_
              have HC2 := Aside0.mk (HC.out.join hj)
              clear HC HT
              go_wp2_with fail
              go_roundw
              case rel => exact ⟨j, _, _, rfl, rfl, by omega, HC2, HT3⟩
              case measure => simp [intOf]
            | zero =>
              obtain rfl : x = -1 := by omega
              clear hx
              have hmt := HC.out.all
              rw [← HMS.out] at hmt
              subst hmt
              clear HC
              go_wp2_with fail
              go_loopw [121] (fun v wr => ∃ (i : Nat), v = .int .i64 (i : Int) ∧ i ≤ es.length ∧ Aside0 (Two w wr p bP bS q bQ bT mt mt)) (fun v _ => es.length - (intOf v).toNat)
              case atStart => exact ⟨0, rfl, by omega, HT⟩
              case round =>
                clear HT
                obtain ⟨j, rfl, hj0, HT⟩ := hrel
                by_cases hj : j < es.length
                · obtain ⟨ad2, eA2, hx1, hx2⟩ := (HR1.out.below HT.out.old) j hj
                  subst eA2
                  have X1 := Aside0.mk hx1
                  have X2 := Aside0.mk hx2
                  clear hx1 hx2
                  have hag := again_no (n := n) hj
                  rw [← HMS.out] at hag
                  have HAG := Aside0.mk hag
                  clear hag
                  go_wp2_with fail
                  refine start_ (n := 12) (S := fun w' => w'.cell? (ad2.add (j * 2)) = some (.int .i64 (pe es j).1) ∧ w'.cell? ⟨(ad2.add (j * 2)).block, (ad2.add (j * 2)).off + 1, none⟩ = some (.int .i64 (pe es j).2) ∧ Aside0 (Two w w' p bP bS q bQ bT mt mt)) (ds := [11]) #[false, false, false, false, false, false, false, false, false, false, false, false] (by kernel_rfl) rfl rfl ⟨X1.out, X2.out, ⟨HT.out.drew⟩⟩ (fun hHeld => ?_)
                  refine pure_ (i := 0) (N := some 124) (v := ?_) (a' := ?_) #[true, false, false, false, false, false, false, false, false, false, false, false] rfl rfl (by kernel_rfl) (fun _ _ _ h => h) (Or.inl ⟨by rfl, ?_⟩) ?_ ?_
                  rotate_left
                  · intro w'
                    go_simp
                    with_reducible rfl
                  rotate_left
                  · simp only [Act.put, List.setIfInBounds_toArray, List.set_cons_zero, List.set_cons_succ, i64_w, i32_w]
                    rfl
                  refine pure_ (i := 1) (N := some 125) (v := ?_) (a' := ?_) #[true, true, false, false, false, false, false, false, false, false, false, false] rfl rfl (by kernel_rfl) (fun _ _ _ h => h) (Or.inl ⟨by rfl, ?_⟩) ?_ ?_
                  rotate_left
                  · intro w'
                    go_simp
                    with_reducible rfl
                  rotate_left
                  · simp only [Act.put, List.setIfInBounds_toArray, List.set_cons_zero, List.set_cons_succ, i64_w, i32_w]
                    rfl
                  refine pure_ (i := 2) (N := some 126) (v := ?_) (a' := ?_) #[true, true, true, false, false, false, false, false, false, false, false, false] rfl rfl (by kernel_rfl) (fun _ _ _ h => h) (Or.inl ⟨by rfl, ?_⟩) ?_ ?_
                  rotate_left
                  · intro w'
                    go_simp
                    with_reducible rfl
                  rotate_left
                  · simp only [Act.put, List.setIfInBounds_toArray, List.set_cons_zero, List.set_cons_succ, i64_w, i32_w]
                    rfl
                  refine pure_ (i := 3) (N := some 127) (v := ?_) (a' := ?_) #[true, true, true, true, false, false, false, false, false, false, false, false] rfl rfl (by kernel_rfl) (fun _ _ _ h => h) (Or.inl ⟨by rfl, ?_⟩) ?_ ?_
                  rotate_left
                  · intro w'
                    go_simp
                    with_reducible rfl
                  rotate_left
                  · simp only [Act.put, List.setIfInBounds_toArray, List.set_cons_zero, List.set_cons_succ, i64_w, i32_w]
                    rfl
                  refine pure_ (i := 4) (N := some 128) (v := ?_) (a' := ?_) #[true, true, true, true, true, false, false, false, false, false, false, false] rfl rfl (by kernel_rfl) (fun _ _ _ h => h) (Or.inl ⟨by rfl, ?_⟩) ?_ ?_
                  rotate_left
                  · intro w'
                    go_simp
                    with_reducible rfl
                  rotate_left
                  · simp only [Act.put, List.setIfInBounds_toArray, List.set_cons_zero, List.set_cons_succ, i64_w, i32_w]
                    rfl
                  refine pure_ (i := 6) (N := some 130) (v := ?_) (a' := ?_) #[true, true, true, true, true, false, true, false, false, false, false, false] rfl rfl (by kernel_rfl) (fun _ _ _ h => h) (Or.inl ⟨by rfl, ?_⟩) ?_ ?_
                  rotate_left
                  · intro w'
                    go_simp
                    with_reducible rfl
                  rotate_left
                  · simp only [Act.put, List.setIfInBounds_toArray, List.set_cons_zero, List.set_cons_succ, i64_w, i32_w]
                    rfl
                  refine pure_ (i := 7) (N := some 131) (v := ?_) (a' := ?_) #[true, true, true, true, true, false, true, true, false, false, false, false] rfl rfl (by kernel_rfl) (fun _ _ _ h => h) (Or.inl ⟨by rfl, ?_⟩) ?_ ?_
                  rotate_left
                  · intro w'
                    go_simp
                    with_reducible rfl
                  rotate_left
                  · simp only [Act.put, List.setIfInBounds_toArray, List.set_cons_zero, List.set_cons_succ, i64_w, i32_w]
                    rfl
                  refine pure_ (i := 8) (N := some 132) (v := ?_) (a' := ?_) #[true, true, true, true, true, false, true, true, true, false, false, false] rfl rfl (by kernel_rfl) (fun _ _ _ h => h) (Or.inl ⟨by rfl, ?_⟩) ?_ ?_
                  rotate_left
                  · intro w'
                    go_simp
                    with_reducible rfl
                  rotate_left
                  · simp only [Act.put, List.setIfInBounds_toArray, List.set_cons_zero, List.set_cons_succ, i64_w, i32_w]
                    rfl
                  refine pure_ (i := 9) (N := some 133) (v := ?_) (a' := ?_) #[true, true, true, true, true, false, true, true, true, true, false, false] rfl rfl (by kernel_rfl) (fun _ _ _ h => h) (Or.inl ⟨by rfl, ?_⟩) ?_ ?_
                  rotate_left
                  · intro w'
                    go_simp
                    with_reducible rfl
                  rotate_left
                  · simp only [Act.put, List.setIfInBounds_toArray, List.set_cons_zero, List.set_cons_succ, i64_w, i32_w]
                    rfl
                  refine take_ (i := 5) (N := some 129) (v := ?_) (a' := ?_) #[true, true, true, true, true, true, true, true, true, true, false, false] rfl rfl (by kernel_rfl) (fun _ _ _ h => h) (Or.inl ⟨by rfl, ?_⟩) hHeld ?_ ?_
                  rotate_left
                  · rintro w' ⟨s0, s1, s2⟩
                    go_simp
                    with_reducible rfl
                  rotate_left
                  · simp only [Act.put, List.setIfInBounds_toArray, List.set_cons_zero, List.set_cons_succ, i64_w, i32_w]
                    rfl
                  refine take_ (i := 10) (N := some 134) (v := ?_) (a' := ?_) #[true, true, true, true, true, true, true, true, true, true, true, false] rfl rfl (by kernel_rfl) (fun _ _ _ h => h) (Or.inl ⟨by rfl, ?_⟩) hHeld ?_ ?_
                  rotate_left
                  · rintro w' ⟨s0, s1, s2⟩
                    go_simp
                    with_reducible rfl
                  rotate_left
                  · simp only [Act.put, List.setIfInBounds_toArray, List.set_cons_zero, List.set_cons_succ, i64_w, i32_w]
                    rfl
                  refine last_ (i := 11) (N := some 135) #[true, true, true, true, true, true, true, true, true, true, true, true] rfl rfl (by kernel_rfl) (by decide) (fun K hK => ?_)
                  obtain ⟨h1, h2, h3⟩ := hHeld
                  refine goes_ Try.func17 (by kernel_rfl) rfl #[.pointer (some ⟨q, 0, none⟩), .int .i64 (pe es j).1, .int .i64 (pe es j).2] (by rfl) rfl rfl (by simp only [List.map_toArray, List.map_cons, List.map_nil]; rfl) ?_
                  with_reducible refine (h3.out.join_t _ _).mono ?_
                  rintro e w3 ⟨rfl, hT, hF⟩
                  refine ⟨_, rfl, ?_⟩
                  rw [HAG.out] at hT ⊢
                  have HT3 := Aside0.mk hT
                  clear hT hF h1 h2 h3
                  refine hK.out _ _ ?_
                  clear hK K
                  refine norm_ (a' := ?_) ?_ ?_
                  rotate_left
                  · show Act.put _ (some 135) _ = _
                    simp only [Act.put, List.setIfInBounds_toArray, List.set_cons_zero, List.set_cons_succ, i64_w, i32_w]
                    rfl
                  refine done_ (by kernel_rfl) ?_
                  clear HT
                  go_wp2_with fail
                  go_roundw
                  case rel => exact ⟨j + 1, by go_num, by omega, HT3⟩
                  case measure => simp [intOf]; omega
                · obtain rfl : j = es.length := by omega
                  have hpt := joinAll_part n es
                  rw [← HMS.out] at hpt
                  have hcn := numTo_all hpt
                  have hml := hpt.len
                  have HCN := Aside0.mk hcn
                  clear hcn hpt
                  go_wp2_with fail
                  refine (HT.out.groups_s HCN.out).mono ?_
                  rintro e w6 ⟨B, bo, vs, rfl, hbo, hG, hT, hF⟩
                  have HG := Aside0.mk hG
                  have HT6 := Aside0.mk hT
                  have hlo := HT.out.s.hi
                  have hlo2 := HT.out.t.hi
                  clear hG hT hF HT
                  go_wp2_with fail
                  refine (HT6.out.groups_t HCN.out).mono ?_
                  rintro e w7 ⟨B7, bo7, vs7, rfl, hbo7, hG7, hT, hF⟩
                  have hsz := Sets.blk_lt HG.out.out
                  have HG1 := Aside0.mk (HG.out.framed hF (fun k hk => by unfold Own2 Own at hk; omega))
                  have HG7 := Aside0.mk hG7
                  have HT7 := Aside0.mk hT
                  clear hG7 hT hF HG HT6
                  have hL : ((groupsOf mt).map ints).length = sets mt := by rw [List.length_map, groupsOf_length, HCN.out]
                  have hsm : sets mt ≤ 3000 := by have := sets_le mt; omega
                  obtain ⟨kk, hkk⟩ := PureL.lists_same ((groupsOf mt).map ints) (by omega) (fun x hx => by have := groupsOf_le hx; omega)
                  have hold := HT7.out.old.size
                  obtain ⟨_, _, hC1⟩ := Kd.R_reads' (HG1.out.rows (base := 0) (ok := fun _ => True) (by omega) (by rw [groupsOf_length, HCN.out]; omega) (fun _ _ => trivial))
                  obtain ⟨_, _, hC7⟩ := Kd.R_reads' (HG7.out.rows (base := 0) (ok := fun _ => True) (by omega) (by rw [groupsOf_length, HCN.out]; omega) (fun _ _ => trivial))
                  have hsame : ∀ w', w7 = w' → Calls Try.prog 22 #[.slice (some ⟨bo, 0, none⟩) (sets mt) (sets mt), .slice (some ⟨bo7, 0, none⟩) (sets mt) (sets mt)] w' fun e w'' => e = .returned (.bool true) ∧ Drawn0 w' w'' := by
                    rintro w' rfl
                    have h := tangramref01_SameLists.calls kk (some ⟨bo, 0, none⟩) (sets mt) _ (some ⟨bo7, 0, none⟩) (sets mt) _ true w7 hC1 (by omega) hC7 (by omega) hkk
                    rw [hL] at h
                    exact h
                  have HS := Aside0.mk hsame
                  have hw : IntKind.i64.wrap ((n : Int) - (y : Int)) = ((sets mt : Nat) : Int) := by have := HY.out; rw [IntWalk.i64_in _ (by omega)]; omega
                  clear hsame hC1 hC7 hkk hL hsm hbo hbo7 hlo hlo2 hsz HG1 HG7 hold
                  go_wp2_with fail
                  refine (HT7.out.count_s).mono ?_
                  rintro e w8 ⟨rfl, rfl⟩
                  go_wp2_with fail
                  refine (HT7.out.count_t).mono ?_
                  rintro e w8 ⟨rfl, rfl⟩
                  go_wp2_with fail
                  refine (HS.out _ rfl).mono ?_
                  rintro e w8 ⟨rfl, ⟨dn, rfl⟩⟩
                  go_wp2_with fail
                  go_ret
                  exact ⟨rfl, (HT7.out.drawn dn).old⟩
end Go.Proofs.Ytoajoklpbfehiaa.PureX
