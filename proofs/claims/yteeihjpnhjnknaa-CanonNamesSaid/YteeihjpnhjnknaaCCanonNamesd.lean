/- DERIVED. Texts of this seat, one behind the other: lemmas and walks that the statement CanonNames needs. No condition. -/
import Derived.Test.YteeihjpnhjnknaaCCanonNamesc
import Derived.StillTailTactics
import Derived.Test.YteeihjpnhjnknaaCCanonNamesb
namespace Go.Proofs.Yteeihjpnhjnknaa.Match
open Go.RowKit Go.Proofs.YteeihjpnhjnknaaW.PrintWords Go.Proofs.YteeihjpnhjnknaaW.PrintLast Go.Proofs.YteeihjpnhjnknaaW.PrintMore Go.Proofs.Yteeihjpnhjnknaa.Mem Go.Proofs.Yteeihjpnhjnknaa.Seen
set_option linter.unusedVariables false
set_option linter.unusedSimpArgs false
def firstE : List Int → Int
 | [] => 0
 | e :: t => if e = 0 then firstE t else e
def putL (x y : List Int) (n : Nat) : Nat → List Int
 | 0 => List.replicate n 0
 | i + 1 => (putL x y n i).set (gi x i).toNat (gi y i)
theorem putL_length (x y : List Int) (n : Nat) : ∀ i, (putL x y n i).length = n
 | 0 => by simp [putL]
 | i + 1 => by show ((putL x y n i).set _ _).length = n; rw [List.length_set, putL_length x y n i]
def MatchPost (out : List Int) (b : Bool) (e0 : Int) (w : World) (e : Ending) (w' : World) : Prop := ∃ v0_ : Value, e = .returned (.tuple #[v0_, .bool b, .int .i64 e0]) ∧ Kd.R (Kd.int .i64) 3 w' w.heap.size (fun _ => True) v0_ out ∧ Below w.heap.size w w'
theorem MatchPost.no (b : Bool) (e0 : Int) {w w' : World} (h : Below w.heap.size w w') : MatchPost [] b e0 w (.returned (.tuple #[.slice none 0 0, .bool b, .int .i64 e0])) w' := ⟨_, rfl, Kd.R_nil _ _ _ _ _, h⟩
def LookSays (g : Array Value) (r : Value) (n : Int) (nx tl : List Int) (e a : Int) (w : World) : Prop := ∀ W, Below w.heap.size w W →
 Calls Try.prog 41 #[.agg g, r] W fun e' w' => ∃ v1 v2 : Value, e' = .returned (.tuple #[.agg #[.int .i64 n, v1, v2], .int .i64 e, .int .i64 a]) ∧ (∃ A1 c1 A2 c2, v1 = .slice A1 nx.length c1 ∧ nx.length ≤ c1 ∧ Kd.C (Kd.int .i64) w' A1 nx.length nx ∧ v2 = .slice A2 tl.length c2 ∧ tl.length ≤ c2 ∧ Kd.C (Kd.int .i64) w' A2 tl.length tl) ∧ Below W.heap.size W w'
def BestSays (n : Int) (nx tl : List Int) (cd od : List Int) (k : Int) : Prop := ∀ (W : World) (A1 : Option Addr) (c1 : Nat) (A2 : Option Addr) (c2 : Nat), Kd.C (Kd.int .i64) W A1 nx.length nx → nx.length ≤ c1 → Kd.C (Kd.int .i64) W A2 tl.length tl → tl.length ≤ c2 →
 Calls Try.prog 39 #[.agg #[.int .i64 n, .slice A1 nx.length c1, .slice A2 tl.length c2]] W fun e' w' => ∃ v0 v1 : Value, e' = .returned (.tuple #[v0, v1, .int .i64 k]) ∧ (∃ A1 c1 A2 c2, v0 = .slice A1 cd.length c1 ∧ cd.length ≤ c1 ∧ Kd.C (Kd.int .i64) w' A1 cd.length cd ∧ v1 = .slice A2 od.length c2 ∧ od.length ≤ c2 ∧ Kd.C (Kd.int .i64) w' A2 od.length od) ∧ Below W.heap.size W w'
def LessSays (a b : List Int) (r : Bool) : Prop := ∀ (W : World) (A : Option Addr) (c : Nat) (B : Option Addr) (d : Nat), Kd.C (Kd.int .i64) W A a.length a → a.length ≤ c → Kd.C (Kd.int .i64) W B b.length b → b.length ≤ d →
 Calls Try.prog 42 #[.slice A a.length c, .slice B b.length d] W fun e' w' => e' = .returned (.bool r) ∧ Below W.heap.size W w'
set_option maxHeartbeats 4000000 in
set_option maxRecDepth 100000 in
theorem match_calls (n1 : Int) (A1 : Option Addr) (m1 c1 : Nat) (r1 : Value) (n2 : Int) (A2 : Option Addr) (m2 c2 : Nat) (r2 : Value) (p1 : Int) (nx1 tl1 : List Int) (e1 a1 : Int) (p2 : Int) (nx2 tl2 : List Int) (e2 a2 : Int) (cd1 od1 cd2 od2 : List Int) (k1 k2 : Int) (ls1 ls2 : Bool) (w : World)
  (h1 : LookSays #[.int .i64 n1, .slice A1 m1 c1] r1 p1 nx1 tl1 e1 a1 w) (h2 : LookSays #[.int .i64 n2, .slice A2 m2 c2] r2 p2 nx2 tl2 e2 a2 w)
  (RES : List Int × Bool × Int)
  (c0 : (e1 = 1 ∨ e2 = 1) → RES = ([], false, 1)) (c1' : ¬ (e1 = 1 ∨ e2 = 1) → firstE [e1, e2, a1, a2] ≠ 0 → RES = ([], false, firstE [e1, e2, a1, a2]))
  (c3 : ¬ (e1 = 1 ∨ e2 = 1) → firstE [e1, e2, a1, a2] = 0 → BestSays p1 nx1 tl1 cd1 od1 k1 ∧ BestSays p2 nx2 tl2 cd2 od2 k2 ∧ LessSays cd1 cd2 ls1 ∧ (ls1 = false → LessSays cd2 cd1 ls2) ∧ (ls1 = true → RES = ([], false, 0)) ∧ (ls1 = false → ls2 = true → RES = ([], false, 0)) ∧
   (ls1 = false → ls2 = false → ∃ n : Nat, n1 = n ∧ n ≤ 1048576 ∧ od1.length ≤ od2.length ∧ od1.length ≤ 1048576 ∧ (∀ i, i < od1.length → 0 ≤ gi od1 i ∧ gi od1 i < (n : Int)) ∧ RES = (putL od1 od2 n od1.length, true, 0))) :
  Calls Try.prog 20 #[.agg #[.int .i64 n1, .slice A1 m1 c1], r1, .agg #[.int .i64 n2, .slice A2 m2 c2], r2] w (MatchPost RES.1 RES.2.1 RES.2.2 w) := by
 have H1 := Aside0.mk h1
 have H2 := Aside0.mk h2
 have C0 := Aside0.mk c0
 have C1 := Aside0.mk c1'
 have C3 := Aside0.mk c3
 have HB : Aside0 (Below w.heap.size w ((w.alloc (.cells #[.int .i64 n1, .slice A1 m1 c1] 24 (0, 0))).alloc (.cells #[.int .i64 n2, .slice A2 m2 c2] 24 (0, 0)))) := ⟨((Below.refl _ _).alloc (Nat.le_refl _) _).alloc (by simp) _⟩
 have HX : Aside0 (((w.alloc (.cells #[.int .i64 n1, .slice A1 m1 c1] 24 (0, 0))).alloc (.cells #[.int .i64 n2, .slice A2 m2 c2] 24 (0, 0))).heap[w.heap.size]? = some (.cells #[.int .i64 n1, .slice A1 m1 c1] 24 (0, 0))) := ⟨heap_old (heap_last w _) _⟩
 have HY : Aside0 (((w.alloc (.cells #[.int .i64 n1, .slice A1 m1 c1] 24 (0, 0))).alloc (.cells #[.int .i64 n2, .slice A2 m2 c2] 24 (0, 0))).heap[w.heap.size + 1]? = some (.cells #[.int .i64 n2, .slice A2 m2 c2] 24 (0, 0))) := ⟨by
  have := heap_last (w.alloc (.cells #[.int .i64 n1, .slice A1 m1 c1] 24 (0, 0))) (.cells #[.int .i64 n2, .slice A2 m2 c2] 24 (0, 0))
  simpa using this⟩
 have x0 : ((w.alloc (.cells #[.int .i64 n1, .slice A1 m1 c1] 24 (0, 0))).alloc (.cells #[.int .i64 n2, .slice A2 m2 c2] 24 (0, 0))).cell? ⟨w.heap.size, 0, none⟩ = some (.int .i64 n1) := heap_cell HX.out rfl
 have x1 : ((w.alloc (.cells #[.int .i64 n1, .slice A1 m1 c1] 24 (0, 0))).alloc (.cells #[.int .i64 n2, .slice A2 m2 c2] 24 (0, 0))).cell? ⟨w.heap.size, 1, none⟩ = some (.slice A1 m1 c1) := heap_cell HX.out rfl
 clear h1 h2 c0 c1' c3
 go_enter Try.func20, Try.ntmps20
 go_wp2_with fail
 clear x0 x1
 obtain ⟨b2, hb2⟩ : ∃ b2, b2 = w.heap.size + 1 := ⟨_, rfl⟩
 rw [← hb2] at HY ⊢
 obtain ⟨b1, hb1⟩ : ∃ b1, b1 = w.heap.size := ⟨_, rfl⟩
 have HX' : Aside0 (((w.alloc (.cells #[.int .i64 n1, .slice A1 m1 c1] 24 (0, 0))).alloc (.cells #[.int .i64 n2, .slice A2 m2 c2] 24 (0, 0))).heap[b1]? = some (.cells #[.int .i64 n1, .slice A1 m1 c1] 24 (0, 0))) := ⟨by rw [hb1]; exact HX.out⟩
 rw [← hb1]
 clear hb1 hb2 HX
 generalize (w.alloc (.cells #[.int .i64 n1, .slice A1 m1 c1] 24 (0, 0))).alloc (.cells #[.int .i64 n2, .slice A2 m2 c2] 24 (0, 0)) = w1 at HX' HY HB ⊢
 refine (H1.out w1 HB.out).mono ?_
 rintro e' w2 ⟨v1, v2, rfl, ⟨B1, d1, B2, d2, rfl, hd1, hC1, rfl, hd2, hC2⟩, hb⟩
 have HB2 := Aside0.mk (HB.out.trans (hb.mono HB.out.size))
 have HX2 := Aside0.mk ((hb.block _ (lt_of HX'.out)).trans HX'.out)
 have HY2 := Aside0.mk ((hb.block _ (lt_of HY.out)).trans HY.out)
 have HN1 := Aside0.mk hC1
 have HT1 := Aside0.mk hC2
 have HD1 := Aside0.mk hd1
 have HD2 := Aside0.mk hd2
 clear hb hC1 hC2 HB HX' HY hd1 hd2
 obtain ⟨w3, hw3⟩ : ∃ w3, w3 = w2.alloc (.cells #[.int .i64 p1, .slice B1 nx1.length d1, .slice B2 tl1.length d2] 69 (0, 0)) := ⟨_, rfl⟩
 have hb : Below w2.heap.size w2 w3 := by rw [hw3]; exact (Below.refl _ _).alloc (Nat.le_refl _) _
 obtain ⟨q1, hq1⟩ : ∃ q1, q1 = w2.heap.size := ⟨_, rfl⟩
 have HP1 : Aside0 (w3.heap[q1]? = some (.cells #[.int .i64 p1, .slice B1 nx1.length d1, .slice B2 tl1.length d2] 69 (0, 0))) := ⟨by rw [hw3, hq1]; exact heap_last _ _⟩
 have HB3 := Aside0.mk (HB2.out.trans (hb.mono HB2.out.size))
 have HX3 := Aside0.mk ((hb.block _ (lt_of HX2.out)).trans HX2.out)
 have HY3 := Aside0.mk ((hb.block _ (lt_of HY2.out)).trans HY2.out)
 have HN1' := Aside0.mk (Kd.C_below HN1.out hb)
 have HT1' := Aside0.mk (Kd.C_below HT1.out hb)
 have y0 : w3.cell? ⟨b2, 0, none⟩ = some (.int .i64 n2) := heap_cell HY3.out rfl
 have y1 : w3.cell? ⟨b2, 1, none⟩ = some (.slice A2 m2 c2) := heap_cell HY3.out rfl
 rw [hw3] at y0 y1
 clear hb HN1 HT1 HB2 HX2 HY2
 go_wp2_with fail
 clear y0 y1
 rw [← hq1, ← hw3]
 clear hq1 hw3
 refine (H2.out w3 HB3.out).mono ?_
 rintro e' w4 ⟨v1, v2, rfl, ⟨B3, d3, B4, d4, rfl, hd3, hC3, rfl, hd4, hC4⟩, hb⟩
 have HB4 := Aside0.mk (HB3.out.trans (hb.mono HB3.out.size))
 have HX4 := Aside0.mk ((hb.block _ (lt_of HX3.out)).trans HX3.out)
 have HY4 := Aside0.mk ((hb.block _ (lt_of HY3.out)).trans HY3.out)
 have HP4 := Aside0.mk ((hb.block _ (lt_of HP1.out)).trans HP1.out)
 have HN4 := Aside0.mk (Kd.C_below HN1'.out hb)
 have HT4 := Aside0.mk (Kd.C_below HT1'.out hb)
 have HN5 := Aside0.mk hC3
 have HT5 := Aside0.mk hC4
 have HD3 := Aside0.mk hd3
 have HD4 := Aside0.mk hd4
 clear hb hC3 hC4 HB3 HX3 HY3 HP1 HN1' HT1' hd3 hd4
 obtain ⟨w5, hw5⟩ : ∃ w5, w5 = w4.alloc (.cells #[.int .i64 p2, .slice B3 nx2.length d3, .slice B4 tl2.length d4] 69 (0, 0)) := ⟨_, rfl⟩
 have hb : Below w4.heap.size w4 w5 := by rw [hw5]; exact (Below.refl _ _).alloc (Nat.le_refl _) _
 obtain ⟨q2, hq2⟩ : ∃ q2, q2 = w4.heap.size := ⟨_, rfl⟩
 have HQ5 : Aside0 (w5.heap[q2]? = some (.cells #[.int .i64 p2, .slice B3 nx2.length d3, .slice B4 tl2.length d4] 69 (0, 0))) := ⟨by rw [hw5, hq2]; exact heap_last _ _⟩
 have HB5 := Aside0.mk (HB4.out.trans (hb.mono HB4.out.size))
 have HX5 := Aside0.mk ((hb.block _ (lt_of HX4.out)).trans HX4.out)
 have HY5 := Aside0.mk ((hb.block _ (lt_of HY4.out)).trans HY4.out)
 have HP5 := Aside0.mk ((hb.block _ (lt_of HP4.out)).trans HP4.out)
 have HN6 := Aside0.mk (Kd.C_below HN4.out hb)
 have HT6 := Aside0.mk (Kd.C_below HT4.out hb)
 have HN7 := Aside0.mk (Kd.C_below HN5.out hb)
 have HT7 := Aside0.mk (Kd.C_below HT5.out hb)
 clear hb HB4 HX4 HY4 HP4 HN4 HT4 HN5 HT5
 go_upto_region 3 with (fail)
 rw [← hq2, ← hw5]
 clear hq2 hw5
 by_cases he : e1 = 1 ∨ e2 = 1
 ·have HR := Aside0.mk (C0.out he)
  by_cases he1 : e1 = 1
  ·have t1 : (e1 == 1) = true := beq_iff_eq.2 he1
   clear he he1
   go_wp2_with fail
   go_ret3
   rw [HR.out]
   exact MatchPost.no _ _ HB5.out
  ·have t1 : (e1 == 1) = false := beq_eq_false_iff_ne.2 he1
   have t2 : (e2 == 1) = true := beq_iff_eq.2 (he.resolve_left he1)
   clear he he1
   go_wp2_with fail
   go_ret3
   rw [HR.out]
   exact MatchPost.no _ _ HB5.out
 ·have HNE := Aside0.mk he
  have t1 : (e1 == 1) = false := beq_eq_false_iff_ne.2 (fun h => he (.inl h))
  have t2 : (e2 == 1) = false := beq_eq_false_iff_ne.2 (fun h => he (.inr h))
  clear he
  obtain ⟨es4, hes⟩ : ∃ es4, es4 = [e1, e2, a1, a2] := ⟨_, rfl⟩
  have HEL : Aside0 (es4.length = 4) := ⟨by rw [hes]; rfl⟩
  rw [← hes] at C1 C3
  have HE6 : Aside0 ((w5.alloc (.cells #[.int .i64 e1, .int .i64 e2, .int .i64 a1, .int .i64 a2] 33 (0, 0))).heap[w5.heap.size]? = some (.cells (es4.map (Value.int .i64)).toArray 33 (0, 0))) := ⟨by rw [hes]; exact heap_last _ _⟩
  have hb : Below w5.heap.size w5 (w5.alloc (.cells #[.int .i64 e1, .int .i64 e2, .int .i64 a1, .int .i64 a2] 33 (0, 0))) := (Below.refl _ _).alloc (Nat.le_refl _) _
  have HB6 := Aside0.mk (HB5.out.trans (hb.mono HB5.out.size))
  have HX6 := Aside0.mk ((hb.block _ (lt_of HX5.out)).trans HX5.out)
  have HP6 := Aside0.mk ((hb.block _ (lt_of HP5.out)).trans HP5.out)
  have HQ6 := Aside0.mk ((hb.block _ (lt_of HQ5.out)).trans HQ5.out)
  have HN8 := Aside0.mk (Kd.C_below HN6.out hb)
  have HT8 := Aside0.mk (Kd.C_below HT6.out hb)
  have HN9 := Aside0.mk (Kd.C_below HN7.out hb)
  have HT9 := Aside0.mk (Kd.C_below HT7.out hb)
  clear hb hes HB5 HX5 HY5 HP5 HQ5 HN6 HT6 HN7 HT7
  go_wp2_with fail
  generalize w5.alloc (.cells #[.int .i64 e1, .int .i64 e2, .int .i64 a1, .int .i64 a2] 33 (0, 0)) = w6 at HE6 HB6 HX6 HP6 HQ6 HN8 HT8 HN9 HT9 ⊢
  obtain ⟨qe, hqe⟩ : ∃ qe, qe = w5.heap.size := ⟨_, rfl⟩
  rw [← hqe] at HE6 ⊢
  clear hqe
  have HF0 : Aside0 (firstE (es4.drop 0) = firstE es4) := ⟨by rw [List.drop_zero]⟩
  go_loop [54] (fun y => ∃ (i : Nat), y = .int .i64 (i : Int) ∧ i ≤ 4 ∧ Aside0 (firstE (es4.drop i) = firstE es4)) (fun y => 4 - (intOf y).toNat)
  case atStart => exact ⟨0, rfl, by omega, HF0⟩
  case round =>
   clear HF0
   obtain ⟨i, rfl, hi, HF⟩ := hrel
   by_cases hlt : i < 4
   ·have hil : i < es4.length := by rw [HEL.out]; exact hlt
    have y1 : w6.cell? ⟨qe, i, none⟩ = some (.int .i64 (gi es4 i)) := heap_cell HE6.out (by simp [gi_of hil])
    have hdr : es4.drop i = gi es4 i :: es4.drop (i + 1) := by
     rw [List.drop_eq_getElem_cons hil]
     congr 1
     unfold gi
     simp [List.getD_eq_getElem?_getD, hil]
    have hf := HF.out
    rw [hdr] at hf
    obtain ⟨z, hz⟩ : ∃ z, z = gi es4 i := ⟨_, rfl⟩
    rw [← hz] at y1 hf
    clear hz hdr hil
    by_cases h0 : z = 0
    ·have t3 : (z != 0) = false := bne_eq_false_iff_eq.2 h0
     have HF2 : Aside0 (firstE (es4.drop (i + 1)) = firstE es4) := ⟨by rw [← hf, firstE, if_pos h0]⟩
     clear h0 hf
     go_wp2_with fail
     go_round
     case rel => exact ⟨i + 1, by go_num, by omega, HF2⟩
     case measure => simp [intOf]; omega
    ·have t3 : (z != 0) = true := bne_iff_ne.2 h0
     have HFE : Aside0 (firstE es4 = z) := ⟨by rw [← hf, firstE, if_neg h0]⟩
     have HR := Aside0.mk (C1.out HNE.out (by rw [HFE.out]; exact h0))
     rw [HFE.out] at HR
     clear h0 hf
     go_wp2_with fail
     go_ret3
     rw [HR.out]
     exact MatchPost.no _ _ HB6.out
   ·obtain rfl : i = 4 := by omega
    have HFE : Aside0 (firstE es4 = 0) := ⟨by rw [← HF.out, List.drop_of_length_le (by rw [HEL.out]; omega)]; rfl⟩
    obtain ⟨b1', b2', l1', l2', s1, s2, s3⟩ := C3.out HNE.out HFE.out
    have HB1 := Aside0.mk b1'
    have HB2' := Aside0.mk b2'
    have HL1 := Aside0.mk l1'
    have HL2 := Aside0.mk l2'
    have HS1 := Aside0.mk s1
    have HS2 := Aside0.mk s2
    have HS3 := Aside0.mk s3
    have z0 : w6.cell? ⟨q1, 0, none⟩ = some (.int .i64 p1) := heap_cell HP6.out rfl
    have z1 : w6.cell? ⟨q1, 1, none⟩ = some (.slice B1 nx1.length d1) := heap_cell HP6.out rfl
    have z2 : w6.cell? ⟨q1, 2, none⟩ = some (.slice B2 tl1.length d2) := heap_cell HP6.out rfl
    clear b1' b2' l1' l2' s1 s2 s3
    go_wp2_with fail
    clear z0 z1 z2
    refine (HB1.out w6 B1 d1 B2 d2 HN8.out HD1.out HT8.out HD2.out).mono ?_
    rintro e' w7 ⟨v1, v2, rfl, ⟨E1, f1, E2, f2, rfl, hf1, hC1, rfl, hf2, hC2⟩, hb⟩
    have HB7 := Aside0.mk (HB6.out.trans (hb.mono HB6.out.size))
    have HX7 := Aside0.mk ((hb.block _ (lt_of HX6.out)).trans HX6.out)
    have HQ7 := Aside0.mk ((hb.block _ (lt_of HQ6.out)).trans HQ6.out)
    have HN10 := Aside0.mk (Kd.C_below HN9.out hb)
    have HT10 := Aside0.mk (Kd.C_below HT9.out hb)
    have HC1 := Aside0.mk hC1
    have HO1 := Aside0.mk hC2
    have HF1 := Aside0.mk hf1
    have HF2 := Aside0.mk hf2
    clear hb hC1 hC2 hf1 hf2 HB6 HX6 HQ6 HN9 HT9 HN8 HT8 HP6 HE6
    have z0 : w7.cell? ⟨q2, 0, none⟩ = some (.int .i64 p2) := heap_cell HQ7.out rfl
    have z1 : w7.cell? ⟨q2, 1, none⟩ = some (.slice B3 nx2.length d3) := heap_cell HQ7.out rfl
    have z2 : w7.cell? ⟨q2, 2, none⟩ = some (.slice B4 tl2.length d4) := heap_cell HQ7.out rfl
    go_wp2_with fail
    clear z0 z1 z2
    refine (HB2'.out w7 B3 d3 B4 d4 HN10.out HD3.out HT10.out HD4.out).mono ?_
    rintro e' w8 ⟨v1, v2, rfl, ⟨E3, f3, E4, f4, rfl, hf3, hC3, rfl, hf4, hC4⟩, hb⟩
    have HB8 := Aside0.mk (HB7.out.trans (hb.mono HB7.out.size))
    have HX8 := Aside0.mk ((hb.block _ (lt_of HX7.out)).trans HX7.out)
    have HQ8 := Aside0.mk ((hb.block _ (lt_of HQ7.out)).trans HQ7.out)
    have HC3 := Aside0.mk hC3
    have HO3 := Aside0.mk hC4
    have HC1' := Aside0.mk (Kd.C_below HC1.out hb)
    have HO1' := Aside0.mk (Kd.C_below HO1.out hb)
    have HF3 := Aside0.mk hf3
    have HF4 := Aside0.mk hf4
    clear hb hC3 hC4 hf3 hf4 HB7 HX7 HQ7 HC1 HO1 HN10 HT10
    go_wp2_with fail
    refine (HL1.out w8 E1 f1 E3 f3 HC1'.out HF1.out HC3.out HF3.out).mono ?_
    rintro e' w9 ⟨rfl, hb⟩
    have HB9 := Aside0.mk (HB8.out.trans (hb.mono HB8.out.size))
    have HX9 := Aside0.mk ((hb.block _ (lt_of HX8.out)).trans HX8.out)
    have HQ9 := Aside0.mk ((hb.block _ (lt_of HQ8.out)).trans HQ8.out)
    have HC4 := Aside0.mk (Kd.C_below HC3.out hb)
    have HC2 := Aside0.mk (Kd.C_below HC1'.out hb)
    have HO2 := Aside0.mk (Kd.C_below HO1'.out hb)
    have HO4 := Aside0.mk (Kd.C_below HO3.out hb)
    clear hb HB8 HX8 HQ8 HC3 HC1' HO1' HO3 HQ9
    cases ls1 with
    | true =>
     have HR := Aside0.mk (HS1.out rfl)
     go_wp2_with fail
     go_ret3
     rw [HR.out]
     exact MatchPost.no _ _ HB9.out
    | false =>
     go_wp2_with fail
     refine ((HL2.out (by first | trivial | rfl)) w9 E3 f3 E1 f1 HC4.out HF3.out HC2.out HF1.out).mono ?_
     rintro e' w10 ⟨rfl, hb⟩
     have HB10 := Aside0.mk (HB9.out.trans (hb.mono HB9.out.size))
     have HX10 := Aside0.mk ((hb.block _ (lt_of HX9.out)).trans HX9.out)
     have HX10b := Aside0.mk ((hb.block _ (lt_of HX9.out)).trans HX9.out)
     have HO5 := Aside0.mk (Kd.C_below HO2.out hb)
     have HO6 := Aside0.mk (Kd.C_below HO4.out hb)
     clear hb HB9 HX9 HX10b HC4 HC2 HO2 HO4
     cases ls2 with
     | true =>
      have HR := Aside0.mk (HS2.out (by first | trivial | rfl) (by first | trivial | rfl))
      go_wp2_with fail
      go_ret3
      rw [HR.out]
      exact MatchPost.no _ _ HB10.out
     | false =>
      obtain ⟨n, rfl, hn, hol, hol1, hin, hres⟩ := HS3.out (by first | trivial | rfl) (by first | trivial | rfl)
      have HIN := Aside0.mk hin
      have HR := Aside0.mk hres
      clear hin hres
      have x0 : w10.cell? ⟨b1, 0, none⟩ = some (.int .i64 (n : Int)) := heap_cell HX10.out rfl
      have mk := print_make (P := Try.prog) 32 3 .i64 8 Try.underlying32 info_int (by decide) n (by omega)
      go_wp2_with fail
      clear mk x0
      obtain ⟨bn, hbn⟩ : ∃ bn, bn = w10.heap.size := ⟨_, rfl⟩
      have HT0 : Aside0 (IRow (w10.alloc (.cells (madeCells #[.int .i64 0] n) 3 (0, 0))) bn (putL od1 od2 n 0)) := ⟨by
       rw [made_int, hbn]; exact IRow.start w10 n⟩
      have HE0 : Aside0 (Below w10.heap.size w10 (w10.alloc (.cells (madeCells #[.int .i64 0] n) 3 (0, 0)))) := ⟨(Below.refl _ _).alloc (Nat.le_refl _) _⟩
      have HBN : Aside0 (w10.heap.size ≤ bn) := ⟨by omega⟩
      rw [← hbn]
      clear hbn
      generalize w10.alloc (.cells (madeCells #[.int .i64 0] n) 3 (0, 0)) = w11 at HT0 HE0 ⊢
      go_loopw [87] (fun y wr => ∃ (i : Nat), y = .int .i64 (i : Int) ∧ i ≤ od1.length ∧ Aside0 (IRow wr bn (putL od1 od2 n i)) ∧ Aside0 (Below w10.heap.size w10 wr)) (fun y _ => od1.length - (intOf y).toNat)
      case atStart => exact ⟨0, rfl, by omega, HT0, HE0⟩
      case round =>
       clear HT0 HE0
       obtain ⟨i, rfl, hi, HT, HE⟩ := hrel
       by_cases hil : i < od1.length
       ·have hin := HIN.out i hil
        obtain ⟨x, hx⟩ : ∃ x : Nat, gi od1 i = (x : Int) := ⟨(gi od1 i).toNat, by omega⟩
        have hxn : x < n := by omega
        obtain ⟨ad, eD, y1⟩ := Kd.at_int (Kd.C_below HO5.out HE.out) (i : Int) (by omega) (by omega)
        obtain ⟨ad2, eD2, y2⟩ := Kd.at_int (Kd.C_below HO6.out HE.out) (i : Int) (by omega) (by omega)
        rw [gi_rd, Int.toNat_natCast] at y1 y2
        rw [hx] at y1
        obtain ⟨z, hz⟩ : ∃ z, z = gi od2 i := ⟨_, rfl⟩
        rw [← hz] at y2
        subst eD eD2
        have c1 := HT.out.cell (i := x) (by rw [putL_length]; exact hxn)
        have g1 := HT.out.free x
        have HT2 : Aside0 (IRow (wr.setCell ⟨bn, x, none⟩ (.int .i64 z)) bn (putL od1 od2 n (i + 1))) := ⟨by
         have h1 := HT.out.put x z
         show IRow _ bn ((putL od1 od2 n i).set (gi od1 i).toNat (gi od2 i))
         rw [hx, Int.toNat_natCast, ← hz]
         exact h1⟩
        have HE2 := Aside0.mk (HE.out.setCell (p := ⟨bn, x, none⟩) HBN.out (.int .i64 z))
        have hi2 : i < od2.length := by omega
        clear hin hx hz
        go_wp2_with fail
        clear y1 y2 c1 g1
        go_roundw
        case rel => exact ⟨i + 1, by go_num, by omega, HT2, HE2⟩
        case measure => simp [intOf]; omega
       ·obtain rfl : i = od1.length := by omega
        go_wp2_with fail
        go_ret3
        rw [HR.out]
        have h1 := HT.out.own (base := w.heap.size) (ok := fun _ => True) (Nat.le_trans HB10.out.size HBN.out) (by rw [putL_length]; omega) trivial
        rw [putL_length] at h1
        exact ⟨_, rfl, h1, HB10.out.trans (HE.out.mono HB10.out.size)⟩
end Go.Proofs.Yteeihjpnhjnknaa.Match
namespace Go.Proofs.Yteeihjpnhjnknaa.Graph
open Go.RowKit Go.Proofs.YteeihjpnhjnknaaW.PrintWords Go.Proofs.YteeihjpnhjnknaaW.PrintLast Go.Proofs.YteeihjpnhjnknaaW.PrintMore Go.Proofs.Yteeihjpnhjnknaa.Mem Go.Proofs.Yteeihjpnhjnknaa.Rot
set_option linter.unusedVariables false
set_option linter.unusedSimpArgs false
def setRow (row : List Int) (nx : List Int) : Nat → List Int
 | 0 => nx
 | i + 1 => (setRow row nx i).set (gi row i).toNat (gi row ((i + 1) % row.length))
def setRows (r : List (List Int)) (m : Nat) : Nat → List Int
 | 0 => List.replicate m 0
 | v + 1 => setRow (gl r v) (setRows r m v) (gl r v).length
def nxL (r : List (List Int)) (m : Nat) : List Int := setRows r m r.length
theorem setRow_length (row nx : List Int) : ∀ i, (setRow row nx i).length = nx.length
 | 0 => rfl
 | i + 1 => by show ((setRow row nx i).set _ _).length = _; rw [List.length_set, setRow_length row nx i]
theorem setRows_length (r : List (List Int)) (m : Nat) : ∀ v, (setRows r m v).length = m
 | 0 => by simp [setRows]
 | v + 1 => by show (setRow _ _ _).length = _; rw [setRow_length, setRows_length r m v]
def NextPost (nx : List Int) (e0 : Int) (w : World) (e : Ending) (w' : World) : Prop := ∃ v0_ : Value, e = .returned (.tuple #[v0_, .int .i64 e0]) ∧ Kd.R (Kd.int .i64) 3 w' w.heap.size (fun _ => True) v0_ nx ∧ Below w.heap.size w w'
set_option maxHeartbeats 4000000 in
set_option maxRecDepth 100000 in
theorem next_bad (n : Int) (A : Option Addr) (m c : Nat) (A1 : Option Addr) (lr c1 : Nat) (v0 e0 : Int) (he : e0 ≠ 0) (w : World)
  (hck : ∀ W, Below w.heap.size w W → Calls Try.prog 70 #[.agg #[.int .i64 n, .slice A m c], .slice A1 lr c1] W fun e w' => e = .returned (.tuple #[.int .i64 v0, .int .i64 e0]) ∧ Below W.heap.size W w') :
  Calls Try.prog 60 #[.agg #[.int .i64 n, .slice A m c], .slice A1 lr c1] w (NextPost [] e0 w) := by
 have HC := Aside0.mk hck
 have HB := Aside0.mk ((Below.refl w.heap.size w).alloc (Nat.le_refl _) (.cells #[.int .i64 n, .slice A m c] 24 (0, 0)))
 have HX := Aside0.mk (heap_last w (.cells #[.int .i64 n, .slice A m c] 24 (0, 0)))
 have x0 : (w.alloc (.cells #[.int .i64 n, .slice A m c] 24 (0, 0))).cell? ⟨w.heap.size, 0, none⟩ = some (.int .i64 n) := heap_cell HX.out rfl
 have x1 : (w.alloc (.cells #[.int .i64 n, .slice A m c] 24 (0, 0))).cell? ⟨w.heap.size, 1, none⟩ = some (.slice A m c) := heap_cell HX.out rfl
 clear hck
 have t0 : (e0 != 0) = true := bne_iff_ne.2 he
 clear he
 go_enter Try.func60, Try.ntmps60
 go_wp2_with fail
 clear x0 x1
 generalize w.alloc (.cells #[.int .i64 n, .slice A m c] 24 (0, 0)) = w1 at HX HB ⊢
 obtain ⟨bg, hbg⟩ : ∃ bg, bg = w.heap.size := ⟨_, rfl⟩
 rw [← hbg] at HX ⊢
 clear hbg
 refine (HC.out w1 HB.out).mono ?_
 rintro e' w2 ⟨rfl, hb⟩
 have HX2 := Aside0.mk ((hb.block _ (lt_of HX.out)).trans HX.out)
 have HB2 := Aside0.mk (HB.out.trans (hb.mono HB.out.size))
 clear hb HX HB
 have x1 : w2.cell? ⟨bg, 1, none⟩ = some (.slice A m c) := heap_cell HX2.out rfl
 go_wp2_with fail
 go_ret2
 exact ⟨_, rfl, Kd.R_nil _ _ _ _ _, HB2.out⟩
set_option maxHeartbeats 4000000 in
set_option maxRecDepth 100000 in
theorem next_ok (n : Int) (A : Option Addr) (m c : Nat) (A1 : Option Addr) (c1 : Nat) (r : List (List Int)) (v0 : Int) (w : World) (hr : Kd.C KR w A1 r.length r) (hm : m ≤ 4194304)
  (hin : ∀ v i, v < r.length → i < (gl r v).length → 0 ≤ gi (gl r v) i ∧ gi (gl r v) i < ((2 * m : Nat) : Int)) (hsm : ∀ v, v < r.length → (gl r v).length ≤ 9000000000000) (hrl : r.length ≤ 9000000000000)
  (hck : ∀ W, Below w.heap.size w W → Calls Try.prog 70 #[.agg #[.int .i64 n, .slice A m c], .slice A1 r.length c1] W fun e w' => e = .returned (.tuple #[.int .i64 v0, .int .i64 0]) ∧ Below W.heap.size W w') :
  Calls Try.prog 60 #[.agg #[.int .i64 n, .slice A m c], .slice A1 r.length c1] w (NextPost (nxL r (2 * m)) 0 w) := by
 have HC := Aside0.mk hck
 have HB := Aside0.mk ((Below.refl w.heap.size w).alloc (Nat.le_refl _) (.cells #[.int .i64 n, .slice A m c] 24 (0, 0)))
 have HX := Aside0.mk (heap_last w (.cells #[.int .i64 n, .slice A m c] 24 (0, 0)))
 have x0 : (w.alloc (.cells #[.int .i64 n, .slice A m c] 24 (0, 0))).cell? ⟨w.heap.size, 0, none⟩ = some (.int .i64 n) := heap_cell HX.out rfl
 have x1 : (w.alloc (.cells #[.int .i64 n, .slice A m c] 24 (0, 0))).cell? ⟨w.heap.size, 1, none⟩ = some (.slice A m c) := heap_cell HX.out rfl
 clear hck
 have HR := Aside0.mk hr
 have HSM := Aside0.mk hsm
 obtain ⟨M, hM⟩ : ∃ M, M = 2 * m := ⟨_, rfl⟩
 rw [← hM] at hin ⊢
 have HIN := Aside0.mk hin
 have hMb : M ≤ 8388608 := by omega
 have q : IntKind.i64.wrap (2 * (m : Int)) = (M : Int) := by rw [IntWalk.i64_in _ (by omega)]; omega
 have mk := print_make (P := Try.prog) 32 3 .i64 8 Try.underlying32 info_int (by decide) M (by omega)
 have hMm : 2 * (m : Int) = (M : Int) := by omega
 clear hr hsm hin hM
 go_enter Try.func60, Try.ntmps60
 go_wp2_with fail
 clear x0 x1
 generalize w.alloc (.cells #[.int .i64 n, .slice A m c] 24 (0, 0)) = w1 at HX HB ⊢
 obtain ⟨bg, hbg⟩ : ∃ bg, bg = w.heap.size := ⟨_, rfl⟩
 rw [← hbg] at HX ⊢
 clear hbg
 refine (HC.out w1 HB.out).mono ?_
 rintro e' w2 ⟨rfl, hb⟩
 have HX2 := Aside0.mk ((hb.block _ (lt_of HX.out)).trans HX.out)
 have HB2 := Aside0.mk (HB.out.trans (hb.mono HB.out.size))
 clear hb HX HB
 have x1 : w2.cell? ⟨bg, 1, none⟩ = some (.slice A m c) := heap_cell HX2.out rfl
 go_wp2_with fail
 clear x1 mk
 obtain ⟨bn, hbn⟩ : ∃ bn, bn = w2.heap.size := ⟨_, rfl⟩
 have HT : Aside0 (IRow (w2.alloc (.cells (madeCells #[.int .i64 0] M) 3 (0, 0))) bn (setRows r M 0)) := ⟨by
  rw [made_int, hbn]
  exact IRow.start w2 M⟩
 have HBB := Aside0.mk (HB2.out.alloc HB2.out.size (.cells (madeCells #[.int .i64 0] M) 3 (0, 0)))
 have HLO : Aside0 (w.heap.size ≤ bn) := ⟨by have := HB2.out.size; omega⟩
 rw [← hbn]
 clear hbn HX2 HB2
 generalize w2.alloc (.cells (madeCells #[.int .i64 0] M) 3 (0, 0)) = w3 at HT HBB ⊢
 clear hMm q
 go_loopw [29] (fun y wr => ∃ (v : Nat), y = .int .i64 (v : Int) ∧ v ≤ r.length ∧ Aside0 (IRow wr bn (setRows r M v)) ∧ Aside0 (Below w.heap.size w wr)) (fun y _ => r.length - (intOf y).toNat)
 case atStart => exact ⟨0, rfl, by omega, HT, HBB⟩
 case round =>
  clear HT HBB
  obtain ⟨v, rfl, hv, HT, HBB⟩ := hrel
  by_cases hlt : v < r.length
  ·obtain ⟨ad, D, cD, eA, hx0, hcD, hrow⟩ := row_at HR.out hlt
   subst eA
   have hrl2 := HSM.out v hlt
   obtain ⟨row, hrw⟩ : ∃ row, row = gl r v := ⟨_, rfl⟩
   rw [← hrw] at hx0 hcD hrow hrl2
   have HROW := Aside0.mk hrow
   have HXC := Aside0.mk hx0
   have HRW := Aside0.mk hrw
   have hx := (HBB.out.cell (cell_lt hx0)).trans hx0
   have HT0 : Aside0 (IRow wr bn (setRow row (setRows r M v) 0)) := HT
   clear hrow hx0 hrw HT
   go_wp2_with fail
   clear hx
   go_loopw [35] (fun y wr => ∃ (i : Nat), y = .int .i64 (i : Int) ∧ i ≤ row.length ∧ Aside0 (IRow wr bn (setRow row (setRows r M v) i)) ∧ Aside0 (Below w.heap.size w wr)) (fun y _ => row.length - (intOf y).toNat)
   case atStart => exact ⟨0, rfl, by omega, HT0, HBB⟩
   case round =>
    clear HT0 HBB
    obtain ⟨i, rfl, hi, HT, HBB⟩ := hrel
    by_cases hil : i < row.length
    ·skip
     have hin := HIN.out v i hlt (by rw [← HRW.out]; exact hil)
     obtain ⟨h, hh⟩ : ∃ h : Nat, gi row i = (h : Int) := ⟨(gi row i).toNat, by rw [← HRW.out] at hin; omega⟩
     have hhM : h < M := by rw [← HRW.out, hh] at hin; omega
     obtain ⟨i1, hi1⟩ : ∃ i1, i1 = i + 1 := ⟨_, rfl⟩
     obtain ⟨p, hp⟩ : ∃ p, p = i1 % row.length := ⟨_, rfl⟩
     have hpl : p < row.length := by rw [hp]; exact Nat.mod_lt _ (by omega)
     have t0 : ((row.length : Int) == 0) = false := beq_eq_false_iff_ne.2 (by omega)
     have hx := (HBB.out.cell (cell_lt HXC.out)).trans HXC.out
     obtain ⟨ad2, eD, hxu⟩ := Kd.at_int (Kd.C_below HROW.out HBB.out) (i : Int) (by omega) (by omega)
     obtain ⟨ad3, eD2, hxp⟩ := Kd.at_int (Kd.C_below HROW.out HBB.out) (p : Int) (by omega) (by omega)
     rw [eD] at eD2
     injection eD2 with eD2
     subst eD2
     rw [gi_rd, Int.toNat_natCast] at hxu hxp
     rw [hh] at hxu
     obtain ⟨z, hz⟩ : ∃ z, z = gi row p := ⟨_, rfl⟩
     rw [← hz] at hxp
     have c1 := HT.out.cell (i := h) (by rw [setRow_length, setRows_length]; exact hhM)
     have f1 := HT.out.free h
     have HT2 : Aside0 (IRow (wr.setCell ⟨bn, h, none⟩ (.int .i64 z)) bn (setRow row (setRows r M v) (i + 1))) := ⟨by
      have h1 := HT.out.put h z
      rw [hz, hp, hi1] at h1
      show IRow _ bn ((setRow row (setRows r M v) i).set (gi row i).toNat (gi row ((i + 1) % row.length)))
      rw [hh, Int.toNat_natCast, hz, hp, hi1]
      exact h1⟩
     have HB2 := Aside0.mk (HBB.out.setCell (p := ⟨bn, h, none⟩) HLO.out (.int .i64 z))
     have q1 : IntKind.i64.wrap ((i : Int) + 1) = (i1 : Int) := by rw [IntWalk.i64_in _ (by omega)]; omega
     have q2 : Int.tmod (i1 : Int) (row.length : Int) = (p : Int) := by rw [hp]; rfl
     have q3 : (i1 : Int) % (row.length : Int) = (p : Int) := by rw [hp]; rfl
     have HI1 := Aside0.mk hi1
     have HP1 := Aside0.mk hp
     subst eD
     clear hin hh hz hi1 hp
     go_wp2_with fail
     clear q1 q2 q3 t0 hx hxu hxp c1 f1
     go_roundw
     case rel => exact ⟨i1, rfl, by have := HI1.out; omega, ⟨by rw [HI1.out]; exact HT2.out⟩, HB2⟩
     case measure => have := HI1.out; simp [intOf]; omega
    ·obtain rfl : i = row.length := by omega
     have HT3 : Aside0 (IRow wr bn (setRows r M (v + 1))) := ⟨by show IRow wr bn (setRow (gl r v) (setRows r M v) (gl r v).length); rw [← HRW.out]; exact HT.out⟩
     go_wp2_with fail
     go_roundw
     case rel => exact ⟨v + 1, by go_num, by omega, HT3, HBB⟩
     case measure => simp [intOf]; omega
  ·obtain rfl : v = r.length := by omega
   go_wp2_with fail
   go_ret2
   have h1 := HT.out.own (base := w.heap.size) (ok := fun _ => True) HLO.out (by rw [setRows_length]; omega) trivial
   rw [setRows_length] at h1
   exact ⟨_, rfl, h1, HBB.out⟩
end Go.Proofs.Yteeihjpnhjnknaa.Graph
namespace Go.Proofs.Yteeihjpnhjnknaa.One
open Go.RowKit Go.Proofs.YteeihjpnhjnknaaW.PrintWords Go.Proofs.YteeihjpnhjnknaaW.PrintLast Go.Proofs.YteeihjpnhjnknaaW.PrintMore Go.Proofs.Yteeihjpnhjnknaa.Mem
set_option linter.unusedVariables false
set_option linter.unusedSimpArgs false
def OnePost (n : Int) (nx tl : List Int) (e : Int) (w : World) (e' : Ending) (w' : World) : Prop := ∃ v1_ v2_ : Value, e' = .returned (.tuple #[.agg #[.int .i64 n, v1_, v2_], .int .i64 e]) ∧ Kd.R (Kd.int .i64) 3 w' w.heap.size (fun k_ => some k_ ≠ (v2_ : Value).ownBlock) v1_ nx ∧ Kd.R (Kd.int .i64) 3 w' w.heap.size (fun k_ => some k_ ≠ (v1_ : Value).ownBlock) v2_ tl ∧ Below w.heap.size w w'
def LookSays (g : Array Value) (r : Value) (n : Int) (nx tl : List Int) (e a : Int) (w : World) : Prop := ∀ W, Below w.heap.size w W → Calls Try.prog 41 #[.agg g, r] W (Look.LookPost n nx tl e a W)
def OneSays (g : Array Value) (r : Value) (n : Int) (nx tl : List Int) (e : Int) (w : World) : Prop := ∀ W, Below w.heap.size w W → Calls Try.prog 36 #[.agg g, r] W (OnePost n nx tl e W)
set_option maxHeartbeats 2000000 in
set_option maxRecDepth 100000 in
theorem one_calls (n0 : Int) (A : Option Addr) (m c : Nat) (r : Value) (n : Int) (nx tl : List Int) (e a : Int) (w : World) (h : LookSays #[.int .i64 n0, .slice A m c] r n nx tl e a w) (x : Int) (hx : x = if e = 0 then a else e) :
  Calls Try.prog 36 #[.agg #[.int .i64 n0, .slice A m c], r] w (OnePost n nx tl x w) := by
 have HN := Aside0.mk h
 have HX := Aside0.mk hx
 clear hx
 obtain ⟨bg, rb, w1, hw1, hbg, hrb, hb1, hg1, hr1⟩ := Look.start n0 A m c w
 have HB := Aside0.mk hb1
 have HR := Aside0.mk hr1
 have HG := Aside0.mk hg1
 have HRB := Aside0.mk hrb
 have HBG := Aside0.mk hbg
 have HW := Aside0.mk hw1
 clear h hw1 hbg hrb hb1 hg1 hr1
 go_enter Try.func36, Try.ntmps36
 have x0 : ((w.alloc (.cells #[.int .i64 n0, .slice A m c] 24 (0, 0))).alloc (.cells #[.int .i64 0, .slice none 0 0, .slice none 0 0] 69 (0, 0))).cell? ⟨w.heap.size, 0, none⟩ = some (.int .i64 n0) := by rw [HW.out, ← HBG.out]; exact heap_cell HG.out rfl
 have x1 : ((w.alloc (.cells #[.int .i64 n0, .slice A m c] 24 (0, 0))).alloc (.cells #[.int .i64 0, .slice none 0 0, .slice none 0 0] 69 (0, 0))).cell? ⟨w.heap.size, 1, none⟩ = some (.slice A m c) := by rw [HW.out, ← HBG.out]; exact heap_cell HG.out rfl
 go_wp2_with fail
 clear x0 x1
 rw [HW.out, ← HRB.out]
 refine (HN.out w1 HB.out).mono ?_
 rintro e' w2 ⟨v1, v2, rfl, hR1, hR2, hb⟩
 obtain ⟨X, cx, rfl⟩ := Kd.R_slice hR1
 obtain ⟨Y, cy, rfl⟩ := Kd.R_slice hR2
 have HB2 := Aside0.mk (HB.out.trans (hb.mono HB.out.size))
 have HR2 := Aside0.mk ((hb.block _ (lt_of HR.out)).trans HR.out)
 have HRL := Aside0.mk (lt_of HR.out)
 have HBL := Aside0.mk HB.out.size
 have HRN := Aside0.mk hR1
 have HRT := Aside0.mk hR2
 clear hb HB HR HG hR1 hR2
 obtain ⟨w3, hw3⟩ : ∃ w3, w3 = w2.alloc (.cells #[.int .i64 n, .slice X nx.length cx, .slice Y tl.length cy] 69 (0, 0)) := ⟨_, rfl⟩
 have HBE : Aside0 (Below w2.heap.size w2 w3) := ⟨by rw [hw3]; exact (Below.refl _ _).alloc (Nat.le_refl _) _⟩
 have HB3 := Aside0.mk (HB2.out.trans (HBE.out.mono HB2.out.size))
 have HR3 := Aside0.mk ((HBE.out.block _ (lt_of HR2.out)).trans HR2.out)
 obtain ⟨q1, hq1⟩ : ∃ q1, q1 = w2.heap.size := ⟨_, rfl⟩
 have HP : Aside0 (w3.heap[q1]? = some (.cells #[.int .i64 n, .slice X nx.length cx, .slice Y tl.length cy] 69 (0, 0))) := ⟨by rw [hw3, hq1]; exact heap_last _ _⟩
 clear HR2 HB2
 go_upto_region 2 with (fail)
 rw [← hq1, ← hw3]
 clear hq1 hw3
 have p0 : w3.cell? ⟨q1, 0, none⟩ = some (.int .i64 n) := heap_cell HP.out rfl
 have p1 : w3.cell? ⟨q1, 1, none⟩ = some (.slice X nx.length cx) := heap_cell HP.out rfl
 have p2 : w3.cell? ⟨q1, 2, none⟩ = some (.slice Y tl.length cy) := heap_cell HP.out rfl
 have r0 : w3.cell? ⟨rb, 0, none⟩ = some (.int .i64 0) := heap_cell HR3.out rfl
 have r1 : w3.cell? ⟨rb, 1, none⟩ = some (.slice none 0 0) := heap_cell HR3.out rfl
 have r2 : w3.cell? ⟨rb, 2, none⟩ = some (.slice none 0 0) := heap_cell HR3.out rfl
 have f0 : w3.frozen? ⟨rb, 0, none⟩ = false := heap_free HR3.out 0
 have f1 : w3.frozen? ⟨rb, 1, none⟩ = false := heap_free HR3.out 1
 have f2 : w3.frozen? ⟨rb, 2, none⟩ = false := heap_free HR3.out 2
 by_cases he : e = 0
 ·obtain rfl : x = a := by rw [HX.out, if_pos he]
  have t1 : (e != 0) = false := bne_eq_false_iff_eq.2 he
  clear he HX
  go_wp2_with fail
  have hrb := HRB.out
  have hrl := HRL.out
  have hbl := HBL.out
  refine bodyPost_ret (v := .tuple #[.agg #[.int .i64 n, .slice X nx.length cx, .slice Y tl.length cy], .int .i64 x]) (by simp [results, Try.results36, go_sem, r0, r1, r2]) rfl ?_
  refine ⟨_, _, rfl, ?_, ?_, ?_⟩
  ·have k1 := Kd.R_below (Kd.R_mono (ok' := fun k => some k ≠ (Value.slice Y tl.length cy).ownBlock ∧ w1.heap.size ≤ k ∧ k < w2.heap.size) (Kd.R_bound HRN.out) (fun k hk => ⟨hk.1, hk.2.1, hk.2.2.1⟩)) HBE.out
   exact Kd.R_mono (Kd.R_lower (Kd.R_far (Kd.R_far (Kd.R_far k1 (p := ⟨rb, 0, none⟩) (fun k hk => by simp only; omega) (.int .i64 n)) (p := ⟨rb, 1, none⟩) (fun k hk => by simp only; omega) (.slice X nx.length cx)) (p := ⟨rb, 2, none⟩) (fun k hk => by simp only; omega) (.slice Y tl.length cy)) hbl) (fun k hk => hk.1)
  ·have k1 := Kd.R_below (Kd.R_mono (ok' := fun k => some k ≠ (Value.slice X nx.length cx).ownBlock ∧ w1.heap.size ≤ k ∧ k < w2.heap.size) (Kd.R_bound HRT.out) (fun k hk => ⟨hk.1, hk.2.1, hk.2.2.1⟩)) HBE.out
   exact Kd.R_mono (Kd.R_lower (Kd.R_far (Kd.R_far (Kd.R_far k1 (p := ⟨rb, 0, none⟩) (fun k hk => by simp only; omega) (.int .i64 n)) (p := ⟨rb, 1, none⟩) (fun k hk => by simp only; omega) (.slice X nx.length cx)) (p := ⟨rb, 2, none⟩) (fun k hk => by simp only; omega) (.slice Y tl.length cy)) hbl) (fun k hk => hk.1)
  ·repeat (first | exact HB3.out | refine Below.setCell ?_ (by simp; omega) _)
 ·obtain rfl : x = e := by rw [HX.out, if_neg he]
  have t1 : (x != 0) = true := bne_iff_ne.2 he
  clear he HX
  go_wp2_with fail
  have hrb := HRB.out
  have hrl := HRL.out
  have hbl := HBL.out
  refine bodyPost_ret (v := .tuple #[.agg #[.int .i64 n, .slice X nx.length cx, .slice Y tl.length cy], .int .i64 x]) (by simp [results, Try.results36, go_sem, r0, r1, r2]) rfl ?_
  refine ⟨_, _, rfl, ?_, ?_, ?_⟩
  ·have k1 := Kd.R_below (Kd.R_mono (ok' := fun k => some k ≠ (Value.slice Y tl.length cy).ownBlock ∧ w1.heap.size ≤ k ∧ k < w2.heap.size) (Kd.R_bound HRN.out) (fun k hk => ⟨hk.1, hk.2.1, hk.2.2.1⟩)) HBE.out
   exact Kd.R_mono (Kd.R_lower (Kd.R_far (Kd.R_far (Kd.R_far k1 (p := ⟨rb, 0, none⟩) (fun k hk => by simp only; omega) (.int .i64 n)) (p := ⟨rb, 1, none⟩) (fun k hk => by simp only; omega) (.slice X nx.length cx)) (p := ⟨rb, 2, none⟩) (fun k hk => by simp only; omega) (.slice Y tl.length cy)) hbl) (fun k hk => hk.1)
  ·have k1 := Kd.R_below (Kd.R_mono (ok' := fun k => some k ≠ (Value.slice X nx.length cx).ownBlock ∧ w1.heap.size ≤ k ∧ k < w2.heap.size) (Kd.R_bound HRT.out) (fun k hk => ⟨hk.1, hk.2.1, hk.2.2.1⟩)) HBE.out
   exact Kd.R_mono (Kd.R_lower (Kd.R_far (Kd.R_far (Kd.R_far k1 (p := ⟨rb, 0, none⟩) (fun k hk => by simp only; omega) (.int .i64 n)) (p := ⟨rb, 1, none⟩) (fun k hk => by simp only; omega) (.slice X nx.length cx)) (p := ⟨rb, 2, none⟩) (fun k hk => by simp only; omega) (.slice Y tl.length cy)) hbl) (fun k hk => hk.1)
  ·repeat (first | exact HB3.out | refine Below.setCell ?_ (by simp; omega) _)
def RowPost (l : List Int) (e : Int) (w : World) (e' : Ending) (w' : World) : Prop := ∃ v0_ : Value, e' = .returned (.tuple #[v0_, .int .i64 e]) ∧ Kd.R (Kd.int .i64) 3 w' w.heap.size (fun _ => True) v0_ l ∧ Below w.heap.size w w'
theorem RowPost.no (e : Int) {w w' : World} (h : Below w.heap.size w w') : RowPost [] e w (.returned (.tuple #[.slice none 0 0, .int .i64 e])) w' := ⟨_, rfl, Kd.R_nil _ _ _ _ _, h⟩
def CodeSays (n : Int) (nx tl : List Int) (root : Int) (cd : List Int) : Prop := ∀ (W : World) (A1 : Option Addr) (c1 : Nat) (A2 : Option Addr) (c2 : Nat), Kd.C (Kd.int .i64) W A1 nx.length nx → nx.length ≤ c1 → Kd.C (Kd.int .i64) W A2 tl.length tl → tl.length ≤ c2 →
 Calls Try.prog 37 #[.agg #[.int .i64 n, .slice A1 nx.length c1, .slice A2 tl.length c2], .int .i64 root] W fun e' w' => ∃ v0 v1 : Value, e' = .returned (.tuple #[v0, v1]) ∧ Kd.R (Kd.int .i64) 3 w' W.heap.size (fun _ => True) v0 cd ∧ Below W.heap.size W w'
def BestSays (n : Int) (nx tl : List Int) (cd : List Int) (k : Int) : Prop := ∀ (W : World) (A1 : Option Addr) (c1 : Nat) (A2 : Option Addr) (c2 : Nat), Kd.C (Kd.int .i64) W A1 nx.length nx → nx.length ≤ c1 → Kd.C (Kd.int .i64) W A2 tl.length tl → tl.length ≤ c2 →
 Calls Try.prog 39 #[.agg #[.int .i64 n, .slice A1 nx.length c1, .slice A2 tl.length c2]] W fun e' w' => ∃ v0 v1 : Value, e' = .returned (.tuple #[v0, v1, .int .i64 k]) ∧ Kd.R (Kd.int .i64) 3 w' W.heap.size (fun _ => True) v0 cd ∧ Below W.heap.size W w'
set_option maxHeartbeats 2000000 in
set_option maxRecDepth 100000 in
theorem rooted_calls (n0 : Int) (A : Option Addr) (m c : Nat) (r : Value) (root : Int) (n : Int) (nx tl : List Int) (e : Int) (w : World) (h1 : OneSays #[.int .i64 n0, .slice A m c] r n nx tl e w) (RES : List Int × Int)
  (c0 : e ≠ 0 → RES = ([], e)) (c1 : e = 0 → (root < 0 → RES = ([], 2)) ∧ (0 ≤ root → (nx.length : Int) ≤ root → RES = ([], 2)) ∧ (0 ≤ root → root < (nx.length : Int) → RES.2 = 0 ∧ CodeSays n nx tl root RES.1)) :
  Calls Try.prog 13 #[.agg #[.int .i64 n0, .slice A m c], r, .int .i64 root] w (RowPost RES.1 RES.2 w) := by
 have HN := Aside0.mk h1
 have HC0 := Aside0.mk c0
 have HC1 := Aside0.mk c1
 clear h1 c0 c1
 have HB : Aside0 (Below w.heap.size w (w.alloc (.cells #[.int .i64 n0, .slice A m c] 24 (0, 0)))) := ⟨(Below.refl _ _).alloc (Nat.le_refl _) _⟩
 have HX := heap_last w (.cells #[.int .i64 n0, .slice A m c] 24 (0, 0))
 have x0 : (w.alloc (.cells #[.int .i64 n0, .slice A m c] 24 (0, 0))).cell? ⟨w.heap.size, 0, none⟩ = some (.int .i64 n0) := heap_cell HX rfl
 have x1 : (w.alloc (.cells #[.int .i64 n0, .slice A m c] 24 (0, 0))).cell? ⟨w.heap.size, 1, none⟩ = some (.slice A m c) := heap_cell HX rfl
 clear HX
 go_enter Try.func13, Try.ntmps13
 go_wp2_with fail
 clear x0 x1
 refine (HN.out _ HB.out).mono ?_
 rintro e' w2 ⟨v1, v2, rfl, hR1, hR2, hb⟩
 have HB2 := Aside0.mk (HB.out.trans (hb.mono HB.out.size))
 obtain ⟨X, cx, rfl, hcx, hX⟩ := Kd.R_reads hR1
 obtain ⟨Y, cy, rfl, hcy, hY⟩ := Kd.R_reads hR2
 clear hb HB hR1 hR2
 obtain ⟨w3, hw3⟩ : ∃ w3, w3 = w2.alloc (.cells #[.int .i64 n, .slice X nx.length cx, .slice Y tl.length cy] 69 (0, 0)) := ⟨_, rfl⟩
 have hb : Below w2.heap.size w2 w3 := by rw [hw3]; exact (Below.refl _ _).alloc (Nat.le_refl _) _
 have HB3 := Aside0.mk (HB2.out.trans (hb.mono HB2.out.size))
 have HCX := Aside0.mk hcx
 have HCY := Aside0.mk hcy
 have HX := Aside0.mk (Kd.C_below hX hb)
 have HY := Aside0.mk (Kd.C_below hY hb)
 obtain ⟨q1, hq1⟩ : ∃ q1, q1 = w2.heap.size := ⟨_, rfl⟩
 have HP : Aside0 (w3.heap[q1]? = some (.cells #[.int .i64 n, .slice X nx.length cx, .slice Y tl.length cy] 69 (0, 0))) := ⟨by rw [hw3, hq1]; exact heap_last _ _⟩
 clear hb hX hY hcx hcy HB2
 go_upto_region 2 with (fail)
 rw [← hq1, ← hw3]
 clear hq1 hw3
 have p0 : w3.cell? ⟨q1, 0, none⟩ = some (.int .i64 n) := heap_cell HP.out rfl
 have p1 : w3.cell? ⟨q1, 1, none⟩ = some (.slice X nx.length cx) := heap_cell HP.out rfl
 have p2 : w3.cell? ⟨q1, 2, none⟩ = some (.slice Y tl.length cy) := heap_cell HP.out rfl
 by_cases he : e = 0
 rotate_left
 ·have HR := Aside0.mk (HC0.out he)
  have t1 : (e != 0) = true := bne_iff_ne.2 he
  clear he
  go_wp2_with fail
  go_ret2
  rw [HR.out]
  exact RowPost.no _ HB3.out
 have HC := Aside0.mk (HC1.out he)
 have t1 : (e != 0) = false := bne_eq_false_iff_eq.2 he
 clear he HC0 HC1 HN
 by_cases g1 : root < 0
 ·have HR := Aside0.mk (HC.out.1 g1)
  go_wp2_with fail
  go_ret2
  rw [HR.out]
  exact RowPost.no _ HB3.out
 ·by_cases g2 : (nx.length : Int) ≤ root
  ·have HR := Aside0.mk (HC.out.2.1 (by omega) g2)
   go_wp2_with fail
   go_ret2
   rw [HR.out]
   exact RowPost.no _ HB3.out
  ·obtain ⟨hz, hs⟩ := HC.out.2.2 (by omega) (by omega)
   have HZ := Aside0.mk hz
   have HS := Aside0.mk hs
   clear hz hs HC
   go_wp2_with fail
   refine (HS.out w3 X cx Y cy HX.out HCX.out HY.out HCY.out).mono ?_
   rintro e' w4 ⟨v0, v1, rfl, hR, hb⟩
   have HR := Aside0.mk (Kd.R_lower hR HB3.out.size)
   have HB4 := Aside0.mk (HB3.out.trans (hb.mono HB3.out.size))
   clear hR hb
   go_wp2_with fail
   go_ret2
   rw [HZ.out]
   exact ⟨_, rfl, HR.out, HB4.out⟩
def NumPost (k e : Int) (w : World) (e' : Ending) (w' : World) : Prop := e' = .returned (.tuple #[.int .i64 k, .int .i64 e]) ∧ Below w.heap.size w w'
theorem NumPost.no (e : Int) {w w' : World} (h : Below w.heap.size w w') : NumPost 0 e w (.returned (.tuple #[.int .i64 0, .int .i64 e])) w' := ⟨rfl, h⟩
set_option maxHeartbeats 2000000 in
set_option maxRecDepth 100000 in
theorem code_calls (n0 : Int) (A : Option Addr) (m c : Nat) (r : Value) (n : Int) (nx tl : List Int) (e : Int) (w : World) (h1 : OneSays #[.int .i64 n0, .slice A m c] r n nx tl e w) (RES : List Int × Int)
  (c0 : e ≠ 0 → RES = ([], e)) (c1 : e = 0 → RES.2 = 0 ∧ ∃ k, BestSays n nx tl RES.1 k) :
  Calls Try.prog 16 #[.agg #[.int .i64 n0, .slice A m c], r] w (RowPost RES.1 RES.2 w) := by
 have HN := Aside0.mk h1
 have HC0 := Aside0.mk c0
 have HC1 := Aside0.mk c1
 clear h1 c0 c1
 have HB : Aside0 (Below w.heap.size w (w.alloc (.cells #[.int .i64 n0, .slice A m c] 24 (0, 0)))) := ⟨(Below.refl _ _).alloc (Nat.le_refl _) _⟩
 have HX := heap_last w (.cells #[.int .i64 n0, .slice A m c] 24 (0, 0))
 have x0 : (w.alloc (.cells #[.int .i64 n0, .slice A m c] 24 (0, 0))).cell? ⟨w.heap.size, 0, none⟩ = some (.int .i64 n0) := heap_cell HX rfl
 have x1 : (w.alloc (.cells #[.int .i64 n0, .slice A m c] 24 (0, 0))).cell? ⟨w.heap.size, 1, none⟩ = some (.slice A m c) := heap_cell HX rfl
 clear HX
 go_enter Try.func16, Try.ntmps16
 go_wp2_with fail
 clear x0 x1
 refine (HN.out _ HB.out).mono ?_
 rintro e' w2 ⟨v1, v2, rfl, hR1, hR2, hb⟩
 have HB2 := Aside0.mk (HB.out.trans (hb.mono HB.out.size))
 obtain ⟨X, cx, rfl, hcx, hX⟩ := Kd.R_reads hR1
 obtain ⟨Y, cy, rfl, hcy, hY⟩ := Kd.R_reads hR2
 clear hb HB hR1 hR2
 obtain ⟨w3, hw3⟩ : ∃ w3, w3 = w2.alloc (.cells #[.int .i64 n, .slice X nx.length cx, .slice Y tl.length cy] 69 (0, 0)) := ⟨_, rfl⟩
 have hb : Below w2.heap.size w2 w3 := by rw [hw3]; exact (Below.refl _ _).alloc (Nat.le_refl _) _
 have HB3 := Aside0.mk (HB2.out.trans (hb.mono HB2.out.size))
 have HCX := Aside0.mk hcx
 have HCY := Aside0.mk hcy
 have HX := Aside0.mk (Kd.C_below hX hb)
 have HY := Aside0.mk (Kd.C_below hY hb)
 obtain ⟨q1, hq1⟩ : ∃ q1, q1 = w2.heap.size := ⟨_, rfl⟩
 have HP : Aside0 (w3.heap[q1]? = some (.cells #[.int .i64 n, .slice X nx.length cx, .slice Y tl.length cy] 69 (0, 0))) := ⟨by rw [hw3, hq1]; exact heap_last _ _⟩
 clear hb hX hY hcx hcy HB2
 go_upto_region 2 with (fail)
 rw [← hq1, ← hw3]
 clear hq1 hw3
 have p0 : w3.cell? ⟨q1, 0, none⟩ = some (.int .i64 n) := heap_cell HP.out rfl
 have p1 : w3.cell? ⟨q1, 1, none⟩ = some (.slice X nx.length cx) := heap_cell HP.out rfl
 have p2 : w3.cell? ⟨q1, 2, none⟩ = some (.slice Y tl.length cy) := heap_cell HP.out rfl
 by_cases he : e = 0
 rotate_left
 ·have HR := Aside0.mk (HC0.out he)
  have t1 : (e != 0) = true := bne_iff_ne.2 he
  clear he
  go_wp2_with fail
  go_ret2
  rw [HR.out]
  exact RowPost.no _ HB3.out
 have HC := Aside0.mk (HC1.out he)
 have t1 : (e != 0) = false := bne_eq_false_iff_eq.2 he
 clear he HC0 HC1 HN
 obtain ⟨hz, k, hs⟩ := HC.out
 have HZ := Aside0.mk hz
 have HS := Aside0.mk hs
 clear hz hs HC
 go_wp2_with fail
 refine (HS.out w3 X cx Y cy HX.out HCX.out HY.out HCY.out).mono ?_
 rintro e' w4 ⟨v0, v1, rfl, hR, hb⟩
 have HR := Aside0.mk (Kd.R_lower hR HB3.out.size)
 have HB4 := Aside0.mk (HB3.out.trans (hb.mono HB3.out.size))
 clear hR hb
 go_wp2_with fail
 go_ret2
 rw [HZ.out]
 exact ⟨_, rfl, HR.out, HB4.out⟩
set_option maxHeartbeats 2000000 in
set_option maxRecDepth 100000 in
theorem turns_calls (n0 : Int) (A : Option Addr) (m c : Nat) (r : Value) (n : Int) (nx tl : List Int) (e : Int) (w : World) (h1 : OneSays #[.int .i64 n0, .slice A m c] r n nx tl e w) (RES : Int × Int)
  (c0 : e ≠ 0 → RES = (0, e)) (c1 : e = 0 → RES.2 = 0 ∧ ∃ cd, BestSays n nx tl cd RES.1) :
  Calls Try.prog 18 #[.agg #[.int .i64 n0, .slice A m c], r] w (NumPost RES.1 RES.2 w) := by
 have HN := Aside0.mk h1
 have HC0 := Aside0.mk c0
 have HC1 := Aside0.mk c1
 clear h1 c0 c1
 have HB : Aside0 (Below w.heap.size w (w.alloc (.cells #[.int .i64 n0, .slice A m c] 24 (0, 0)))) := ⟨(Below.refl _ _).alloc (Nat.le_refl _) _⟩
 have HX := heap_last w (.cells #[.int .i64 n0, .slice A m c] 24 (0, 0))
 have x0 : (w.alloc (.cells #[.int .i64 n0, .slice A m c] 24 (0, 0))).cell? ⟨w.heap.size, 0, none⟩ = some (.int .i64 n0) := heap_cell HX rfl
 have x1 : (w.alloc (.cells #[.int .i64 n0, .slice A m c] 24 (0, 0))).cell? ⟨w.heap.size, 1, none⟩ = some (.slice A m c) := heap_cell HX rfl
 clear HX
 go_enter Try.func18, Try.ntmps18
 go_wp2_with fail
 clear x0 x1
 refine (HN.out _ HB.out).mono ?_
 rintro e' w2 ⟨v1, v2, rfl, hR1, hR2, hb⟩
 have HB2 := Aside0.mk (HB.out.trans (hb.mono HB.out.size))
 obtain ⟨X, cx, rfl, hcx, hX⟩ := Kd.R_reads hR1
 obtain ⟨Y, cy, rfl, hcy, hY⟩ := Kd.R_reads hR2
 clear hb HB hR1 hR2
 obtain ⟨w3, hw3⟩ : ∃ w3, w3 = w2.alloc (.cells #[.int .i64 n, .slice X nx.length cx, .slice Y tl.length cy] 69 (0, 0)) := ⟨_, rfl⟩
 have hb : Below w2.heap.size w2 w3 := by rw [hw3]; exact (Below.refl _ _).alloc (Nat.le_refl _) _
 have HB3 := Aside0.mk (HB2.out.trans (hb.mono HB2.out.size))
 have HCX := Aside0.mk hcx
 have HCY := Aside0.mk hcy
 have HX := Aside0.mk (Kd.C_below hX hb)
 have HY := Aside0.mk (Kd.C_below hY hb)
 obtain ⟨q1, hq1⟩ : ∃ q1, q1 = w2.heap.size := ⟨_, rfl⟩
 have HP : Aside0 (w3.heap[q1]? = some (.cells #[.int .i64 n, .slice X nx.length cx, .slice Y tl.length cy] 69 (0, 0))) := ⟨by rw [hw3, hq1]; exact heap_last _ _⟩
 clear hb hX hY hcx hcy HB2
 go_upto_region 2 with (fail)
 rw [← hq1, ← hw3]
 clear hq1 hw3
 have p0 : w3.cell? ⟨q1, 0, none⟩ = some (.int .i64 n) := heap_cell HP.out rfl
 have p1 : w3.cell? ⟨q1, 1, none⟩ = some (.slice X nx.length cx) := heap_cell HP.out rfl
 have p2 : w3.cell? ⟨q1, 2, none⟩ = some (.slice Y tl.length cy) := heap_cell HP.out rfl
 by_cases he : e = 0
 rotate_left
 ·have HR := Aside0.mk (HC0.out he)
  have t1 : (e != 0) = true := bne_iff_ne.2 he
  clear he
  go_wp2_with fail
  go_ret2
  rw [HR.out]
  exact NumPost.no _ HB3.out
 have HC := Aside0.mk (HC1.out he)
 have t1 : (e != 0) = false := bne_eq_false_iff_eq.2 he
 clear he HC0 HC1 HN
 obtain ⟨hz, k, hs⟩ := HC.out
 have HZ := Aside0.mk hz
 have HS := Aside0.mk hs
 clear hz hs HC
 go_wp2_with fail
 refine (HS.out w3 X cx Y cy HX.out HCX.out HY.out HCY.out).mono ?_
 rintro e' w4 ⟨v0, v1, rfl, hR, hb⟩
 have HR := Aside0.mk (Kd.R_lower hR HB3.out.size)
 have HB4 := Aside0.mk (HB3.out.trans (hb.mono HB3.out.size))
 clear hR hb
 go_wp2_with fail
 go_ret2
 rw [HZ.out]
 exact ⟨rfl, HB4.out⟩
end Go.Proofs.Yteeihjpnhjnknaa.One
namespace Go.Proofs.Yteeihjpnhjnknaa.One
open Go.RowKit Go.Proofs.YteeihjpnhjnknaaW.PrintWords Go.Proofs.YteeihjpnhjnknaaW.PrintLast Go.Proofs.YteeihjpnhjnknaaW.PrintMore Go.Proofs.Yteeihjpnhjnknaa.Mem
set_option linter.unusedVariables false
set_option linter.unusedSimpArgs false
def OneNum (r : Int) (w : World) (e' : Ending) (w' : World) : Prop := e' = .returned (.int .i64 r) ∧ Below w.heap.size w w'
def CheckSays (g : Array Value) (r : Value) (v e : Int) (w : World) : Prop := ∀ W, Below w.heap.size w W → Calls Try.prog 47 #[.agg g, r] W (NumPost v e W)
def PartsSays (g : Array Value) (k z : Int) (w : World) : Prop := ∀ W, Below w.heap.size w W → Calls Try.prog 48 #[.agg g] W fun e' w' => ∃ v, e' = .returned (.tuple #[v, .int .i64 k, .int .i64 z]) ∧ Below W.heap.size W w'
def FaultSays (g : Array Value) (r : Value) (e : Int) (w : World) : Prop := ∀ W, Below w.heap.size w W → Calls Try.prog 25 #[.agg g, r] W (OneNum e W)
def SeenSays (g : Array Value) (r : Value) (root : Int) (cd : List Int) (w : World) : Prop := ∀ W, Below w.heap.size w W → Calls Try.prog 38 #[.agg g, r, .int .i64 root] W fun e' w' => ∃ v0 v1 : Value, e' = .returned (.tuple #[v0, v1]) ∧ Kd.R (Kd.int .i64) 3 w' W.heap.size (fun _ => True) v0 cd ∧ Below W.heap.size W w'
def RefBestSays (g : Array Value) (r : Value) (cd : List Int) (x k : Int) (w : World) : Prop := ∀ W, Below w.heap.size w W → Calls Try.prog 40 #[.agg g, r] W fun e' w' => ∃ v0 : Value, e' = .returned (.tuple #[v0, .int .i64 x, .int .i64 k]) ∧ Kd.R (Kd.int .i64) 3 w' W.heap.size (fun _ => True) v0 cd ∧ Below W.heap.size W w'
set_option maxHeartbeats 2000000 in
set_option maxRecDepth 100000 in
theorem fault_calls (n0 : Int) (A : Option Addr) (m c : Nat) (r : Value) (v e : Int) (w : World) (h1 : CheckSays #[.int .i64 n0, .slice A m c] r v e w) (RES : Int)
  (c0 : e ≠ 0 → RES = e) (c1 : e = 0 → ∃ k z, PartsSays #[.int .i64 n0, .slice A m c] k z w ∧ (k ≠ 1 → RES = 210) ∧ (k = 1 → m = 0 → RES = 210) ∧ (k = 1 → m ≠ 0 → RES = 0)) :
  Calls Try.prog 25 #[.agg #[.int .i64 n0, .slice A m c], r] w (OneNum RES w) := by
 have HN := Aside0.mk h1
 have HC0 := Aside0.mk c0
 have HC1 := Aside0.mk c1
 clear h1 c0 c1
 have HB : Aside0 (Below w.heap.size w (w.alloc (.cells #[.int .i64 n0, .slice A m c] 24 (0, 0)))) := ⟨(Below.refl _ _).alloc (Nat.le_refl _) _⟩
 have HX := Aside0.mk (heap_last w (.cells #[.int .i64 n0, .slice A m c] 24 (0, 0)))
 have x0 : (w.alloc (.cells #[.int .i64 n0, .slice A m c] 24 (0, 0))).cell? ⟨w.heap.size, 0, none⟩ = some (.int .i64 n0) := heap_cell HX.out rfl
 have x1 : (w.alloc (.cells #[.int .i64 n0, .slice A m c] 24 (0, 0))).cell? ⟨w.heap.size, 1, none⟩ = some (.slice A m c) := heap_cell HX.out rfl
 go_enter Try.func25, Try.ntmps25
 go_wp2_with fail
 clear x0 x1
 obtain ⟨b1, hb1⟩ : ∃ b1, b1 = w.heap.size := ⟨_, rfl⟩
 rw [← hb1] at HX ⊢
 have HBB := Aside0.mk hb1
 clear hb1
 refine (HN.out _ HB.out).mono ?_
 rintro e' w2 ⟨rfl, hb⟩
 have HB2 := Aside0.mk (HB.out.trans (hb.mono HB.out.size))
 have HX2 := Aside0.mk ((hb.block _ (lt_of HX.out)).trans HX.out)
 clear hb HB HX
 have x0 : w2.cell? ⟨b1, 0, none⟩ = some (.int .i64 n0) := heap_cell HX2.out rfl
 have x1 : w2.cell? ⟨b1, 1, none⟩ = some (.slice A m c) := heap_cell HX2.out rfl
 by_cases he : e = 0
 ·obtain ⟨k, z, hp, d1, d2, d3⟩ := HC1.out he
  have HP := Aside0.mk hp
  have D1 := Aside0.mk d1
  have D2 := Aside0.mk d2
  have D3 := Aside0.mk d3
  have t1 : (e != 0) = false := bne_eq_false_iff_eq.2 he
  clear hp d1 d2 d3 he HC0 HC1 HN
  go_wp2_with fail
  clear x0 x1 t1
  refine (HP.out w2 HB2.out).mono ?_
  rintro e' w3 ⟨v3, rfl, hb⟩
  have HB3 := Aside0.mk (HB2.out.trans (hb.mono HB2.out.size))
  have HX3 := Aside0.mk ((hb.block _ (lt_of HX2.out)).trans HX2.out)
  clear hb HB2 HX2 HP
  have x0 : w3.cell? ⟨b1, 0, none⟩ = some (.int .i64 n0) := heap_cell HX3.out rfl
  have x1 : w3.cell? ⟨b1, 1, none⟩ = some (.slice A m c) := heap_cell HX3.out rfl
  by_cases hk : k = 1
  ·have t1 : (k != 1) = false := bne_eq_false_iff_eq.2 hk
   by_cases hm : m = 0
   ·have t2 : ((m : Int) == 0) = true := beq_iff_eq.2 (by omega)
    have HR := Aside0.mk (D2.out hk hm)
    clear hk hm D1 D2 D3
    go_wp2_with fail
    go_ret
    rw [HR.out]
    exact ⟨rfl, HB3.out⟩
   ·have t2 : ((m : Int) == 0) = false := beq_eq_false_iff_ne.2 (by omega)
    have HR := Aside0.mk (D3.out hk hm)
    clear hk hm D1 D2 D3
    go_wp2_with fail
    go_ret
    rw [HR.out]
    exact ⟨rfl, HB3.out⟩
  ·have t1 : (k != 1) = true := bne_iff_ne.2 hk
   have HR := Aside0.mk (D1.out hk)
   clear hk D1 D2 D3
   go_wp2_with fail
   go_ret
   rw [HR.out]
   exact ⟨rfl, HB3.out⟩
 ·have HR := Aside0.mk (HC0.out he)
  have t1 : (e != 0) = true := bne_iff_ne.2 he
  clear he HC0 HC1 HN
  go_wp2_with fail
  go_ret
  rw [HR.out]
  exact ⟨rfl, HB2.out⟩
end Go.Proofs.Yteeihjpnhjnknaa.One
namespace Go.Proofs.Yteeihjpnhjnknaa.One
open Go.RowKit Go.Proofs.YteeihjpnhjnknaaW.PrintWords Go.Proofs.YteeihjpnhjnknaaW.PrintLast Go.Proofs.YteeihjpnhjnknaaW.PrintMore Go.Proofs.Yteeihjpnhjnknaa.Mem
set_option linter.unusedVariables false
set_option linter.unusedSimpArgs false
def ValidSays (g : Array Value) (b : Bool) (w : World) : Prop := ∀ W, Below w.heap.size w W → Calls Try.prog 49 #[.agg g] W fun e' w' => e' = .returned (.bool b) ∧ Below W.heap.size W w'
def putM (m n out : List Int) (v : Nat) : Nat → List Int
 | 0 => out
 | u + 1 => if gi m v = gi n u then (putM m n out v u).set v (u : Int) else putM m n out v u
def putR (m n : List Int) (N M : Nat) : Nat → List Int
 | 0 => List.replicate N 0
 | v + 1 => putM m n (putR m n N M v) v M
def PairSays (g1 : Array Value) (r1 : Value) (g2 : Array Value) (r2 : Value) (e : Int) (w : World) : Prop := ∀ W, Below w.heap.size w W → Calls Try.prog 43 #[.agg g1, r1, .agg g2, r2] W (OneNum e W)
def SameSays (a b : List Int) (x : Bool) : Prop := ∀ (W : World) (A : Option Addr) (c : Nat) (B : Option Addr) (d : Nat), Kd.C (Kd.int .i64) W A a.length a → a.length ≤ c → Kd.C (Kd.int .i64) W B b.length b → b.length ≤ d →
 Calls Try.prog 15 #[.slice A a.length c, .slice B b.length d] W fun e' w' => e' = .returned (.bool x) ∧ Below W.heap.size W w'
def NumSays (g : Array Value) (r : Value) (root : Int) (num : List Int) (w : World) : Prop := ∀ W, Below w.heap.size w W → Calls Try.prog 38 #[.agg g, r, .int .i64 root] W fun e' w' => ∃ v0 v1 : Value, e' = .returned (.tuple #[v0, v1]) ∧ Kd.R (Kd.int .i64) 3 w' W.heap.size (fun _ => True) v1 num ∧ Below W.heap.size W w'
end Go.Proofs.Yteeihjpnhjnknaa.One
namespace Go.Proofs.Yteeihjpnhjnknaa.One
open Go.RowKit Go.Proofs.YteeihjpnhjnknaaW.PrintWords Go.Proofs.YteeihjpnhjnknaaW.PrintLast Go.Proofs.YteeihjpnhjnknaaW.PrintMore Go.Proofs.Yteeihjpnhjnknaa.Mem
set_option linter.unusedVariables false
set_option linter.unusedSimpArgs false
def RLessSays (a b : List Int) (x : Bool) : Prop := ∀ (W : World) (A : Option Addr) (c : Nat) (B : Option Addr) (d : Nat), Kd.C (Kd.int .i64) W A a.length a → a.length ≤ c → Kd.C (Kd.int .i64) W B b.length b → b.length ≤ d →
 Calls Try.prog 22 #[.slice A a.length c, .slice B b.length d] W fun e' w' => e' = .returned (.bool x) ∧ Below W.heap.size W w'
def RBestPost (RES : List Int × Int × Int) (w : World) (e' : Ending) (w' : World) : Prop := ∃ v0 : Value, e' = .returned (.tuple #[v0, .int .i64 RES.2.1, .int .i64 RES.2.2]) ∧ Kd.R (Kd.int .i64) 3 w' w.heap.size (fun _ => True) v0 RES.1 ∧ Below w.heap.size w w'
end Go.Proofs.Yteeihjpnhjnknaa.One
namespace Go.Proofs.Yteeihjpnhjnknaa.Sets
set_option linter.unusedVariables false
def gt (l : List Nat) (i : Nat) : Nat := l.getD i 0
structure Rep (P m : List Nat) : Prop where
 len : P.length = m.length
 le : ∀ i, i < m.length → (gt P i) ≤ i
 same : ∀ i, i < m.length → (gt m ((gt P i))) = (gt m i)
 fix : ∀ i, i < m.length → ((gt P i) = i ↔ (gt m i) = i)
theorem getD_set (l : List Nat) (i j x : Nat) : (gt (l.set i x) j) = if i = j ∧ j < l.length then x else (gt l j) := by
 unfold gt
 simp only [List.getD_eq_getElem?_getD, List.getElem?_set]
 by_cases h : i = j
 ·subst h
  by_cases h2 : i < l.length
  ·simp [h2]
  ·simp [h2]
 ·simp [h]
theorem Rep.least {P m : List Nat} (h : Rep P m) : ∀ (k i : Nat), i ≤ k → i < m.length → (gt m i) ≤ i ∧ (gt m ((gt m i))) = (gt m i) := by
 intro k
 induction k with
 | zero =>
  intro i hk hi
  obtain rfl : i = 0 := by omega
  have e : (gt P 0) = 0 := by have := h.le 0 hi; omega
  have e2 := (h.fix 0 hi).1 e
  rw [e2]; exact ⟨Nat.le_refl _, e2⟩
 | succ k ih =>
  intro i hk hi
  by_cases e : (gt P i) = i
  ·have e2 := (h.fix i hi).1 e
   rw [e2]; exact ⟨Nat.le_refl _, e2⟩
  ·have hl := h.le i hi
   have := ih ((gt P i)) (by omega) (by omega)
   rw [h.same i hi] at this
   exact ⟨by omega, this.2⟩
theorem Rep.ml {P m : List Nat} (h : Rep P m) {i : Nat} (hi : i < m.length) : (gt m i) ≤ i := (h.least i i (Nat.le_refl _) hi).1
theorem Rep.mm {P m : List Nat} (h : Rep P m) {i : Nat} (hi : i < m.length) : (gt m ((gt m i))) = (gt m i) := (h.least i i (Nat.le_refl _) hi).2
theorem Rep.halve {P m : List Nat} (h : Rep P m) {a : Nat} (ha : a < m.length) (hne : (gt P a) ≠ a) : Rep (P.set a ((gt P ((gt P a))))) m := by
 have hpa := h.le a ha
 have hp : (gt P a) < m.length := by omega
 have hpp := h.le _ hp
 refine ⟨by simp [h.len], ?_, ?_, ?_⟩
 ·intro i hi
  rw [getD_set]; split
  ·omega
  ·exact h.le i hi
 ·intro i hi
  rw [getD_set]; split
  ·rename_i c; obtain ⟨rfl, _⟩ := c; rw [h.same _ hp, h.same _ ha]
  ·exact h.same i hi
 ·intro i hi
  rw [getD_set]; split
  ·rename_i c; obtain ⟨rfl, _⟩ := c
   constructor
   ·intro e; omega
   ·intro e; exact absurd ((h.fix _ ha).2 e) hne
  ·exact h.fix i hi
theorem getD_map (f : Nat → Nat) (l : List Nat) {i : Nat} (h : i < l.length) : (gt (l.map f) i) = f ((gt l i)) := by
 simp [gt, List.getD_eq_getElem?_getD, h]
def glue (lo hi : Nat) (m : List Nat) : List Nat := m.map fun v => if v = hi then lo else v
theorem glue_length (lo hi : Nat) (m : List Nat) : (glue lo hi m).length = m.length := by simp [glue]
theorem glue_get (lo hi : Nat) (m : List Nat) {i : Nat} (h : i < m.length) : (gt (glue lo hi m) i) = if (gt m i) = hi then lo else (gt m i) := getD_map _ m h
theorem Rep.glue {P m : List Nat} (h : Rep P m) {lo hi : Nat} (hh : hi < m.length) (hl : lo < hi) (hlo : (gt m lo) = lo) (hhi : (gt m hi) = hi) : Rep (P.set hi lo) (Sets.glue lo hi m) := by
 have hPl := h.len
 refine ⟨by simp [glue_length, h.len], ?_, ?_, ?_⟩
 ·intro i hi'
  rw [glue_length] at hi'
  rw [getD_set]; split
  ·omega
  ·exact h.le i hi'
 ·intro i hi'
  rw [glue_length] at hi'
  have hp := h.le i hi'
  have hsame := h.same i hi'
  rw [getD_set]; split
  ·rename_i c; obtain ⟨rfl, _⟩ := c
   rw [glue_get _ _ _ (by omega), glue_get _ _ _ (by omega), hlo, hhi]; simp
  ·rw [glue_get _ _ _ (by omega), glue_get _ _ _ hi', hsame]
 ·intro i hi'
  rw [glue_length] at hi'
  have hfix := h.fix i hi'
  rw [getD_set, glue_get _ _ _ hi']; split
  ·rename_i c; obtain ⟨rfl, _⟩ := c
   rw [hhi]; simp
  ·rename_i c
   have hne : i ≠ hi := by intro e; exact c ⟨e.symm, by omega⟩
   rw [hfix]
   split
   ·rename_i e
    constructor
    ·intro e2; omega
    ·intro e2; rw [← e2, hlo] at e; omega
   ·exact Iff.rfl
theorem range_get {n i : Nat} (hi : i < n) : (gt (List.range n) i) = i := by simp [gt, List.getD_eq_getElem?_getD, hi]
theorem Rep.range (n : Nat) : Rep (List.range n) (List.range n) := by
 refine ⟨rfl, ?_, ?_, ?_⟩ <;> intro i hi <;> simp only [List.length_range] at hi
 ·rw [range_get hi]; exact Nat.le_refl _
 ·rw [range_get hi]; exact range_get hi
 ·exact Iff.rfl
def many (m : List Nat) (r : Nat) : Nat := m.countP fun v => v == r
def sets (m : List Nat) : Nat := (List.range m.length).countP fun i => (gt m i) == i
theorem many_glue_lo (lo hi : Nat) (m : List Nat) (h : lo ≠ hi) : many (glue lo hi m) lo = many m lo + many m hi := by
 induction m with
 | nil => rfl
 | cons a m ih =>
  simp only [many, glue, List.map_cons, List.countP_cons] at ih ⊢
  rw [ih]
  by_cases e : a = hi
  ·subst e; simp [Ne.symm h]; omega
  ·simp only [e, if_false]
   by_cases e2 : a = lo
   ·subst e2; simp [h]; omega
   ·simp [e2, e]
theorem many_glue_other (lo hi r : Nat) (m : List Nat) (h1 : r ≠ lo) (h2 : r ≠ hi) : many (glue lo hi m) r = many m r := by
 induction m with
 | nil => rfl
 | cons a m ih =>
  simp only [many, glue, List.map_cons, List.countP_cons] at ih ⊢
  rw [ih]
  by_cases e : a = hi
  ·subst e; simp [Ne.symm h1, Ne.symm h2]
  ·simp [e]
theorem countP_one {f g : Nat → Bool} {b : Nat} : ∀ (l : List Nat), l.Nodup → b ∈ l → (∀ i ∈ l, i ≠ b → f i = g i) → f b = false → g b = true → l.countP f + 1 = l.countP g := by
 intro l
 induction l with
 | nil => intro _ h; simp at h
 | cons a l ih =>
  intro hnd hb hfg h1 h2
  rw [List.nodup_cons] at hnd
  simp only [List.countP_cons]
  by_cases e : a = b
  ·subst e
   have : l.countP f = l.countP g := List.countP_congr fun i hi => by rw [hfg i (List.mem_cons_of_mem _ hi) (fun e => hnd.1 (e ▸ hi))]
   simp [this, h1, h2]
  ·have hb' : b ∈ l := by simpa [Ne.symm e] using hb
   have := ih hnd.2 hb' (fun i hi => hfg i (List.mem_cons_of_mem _ hi)) h1 h2
   rw [hfg a (List.mem_cons_self ..) e]; omega
theorem sets_glue' {m : List Nat} {lo hi : Nat} (hh : hi < m.length) (hl : lo < hi) (hlo : (gt m lo) = lo) (hhi : (gt m hi) = hi) : sets (Sets.glue lo hi m) + 1 = sets m := by
 unfold sets
 rw [glue_length]
 refine countP_one (b := hi) _ List.nodup_range (by simpa using hh) ?_ ?_ ?_
 ·intro i hi' hne
  have hi' : i < m.length := by simpa using hi'
  rw [glue_get _ _ _ hi', Bool.eq_iff_iff, beq_iff_eq, beq_iff_eq]
  split
  ·rename_i e
   constructor
   ·intro e2; rw [← e2, hlo] at e; omega
   ·intro e2; omega
  ·exact Iff.rfl
 ·rw [glue_get _ _ _ hh, hhi]; simp; omega
 ·simpa using hhi
theorem sets_glue {P m : List Nat} (h : Rep P m) {lo hi : Nat} (hh : hi < m.length) (hl : lo < hi) (hlo : gt m lo = lo) (hhi : gt m hi = hi) : sets (Sets.glue lo hi m) + 1 = sets m := sets_glue' hh hl hlo hhi
theorem many_le (m : List Nat) (r : Nat) : many m r ≤ m.length := List.countP_le_length
theorem sets_le (m : List Nat) : sets m ≤ m.length := by have := List.countP_le_length (l := List.range m.length) (p := fun i => (gt m i) == i); simpa [sets] using this
theorem many_pair (m : List Nat) {r s : Nat} (h : r ≠ s) : many m r + many m s ≤ m.length := by rw [← many_glue_lo r s m h]; have := many_le (glue r s m) r; rwa [glue_length] at this
structure Sized (S m : List Nat) : Prop where
 len : S.length = m.length
 size : ∀ r, r < m.length → (gt m r) = r → (gt S r) = many m r
theorem Sized.glue {S m : List Nat} (h : Sized S m) {lo hi : Nat} (hh : hi < m.length) (hl : lo < hi) (hlo : (gt m lo) = lo) (hhi : (gt m hi) = hi) : Sized (S.set lo ((gt S lo) + (gt S hi))) (Sets.glue lo hi m) := by
 have hSl := h.len
 refine ⟨by simp [glue_length, h.len], ?_⟩
 intro r hr hrr
 rw [glue_length] at hr
 rw [glue_get _ _ _ hr] at hrr
 rw [getD_set]; split
 ·rename_i c; obtain ⟨rfl, _⟩ := c
  rw [h.size _ hr hlo, h.size _ hh hhi, many_glue_lo _ _ _ (by omega)]
 ·rename_i c
  have hne : r ≠ lo := by intro e; exact c ⟨e.symm, by omega⟩
  have hne2 : r ≠ hi := by
   intro e; subst e; rw [hhi] at hrr; simp at hrr; omega
  rw [many_glue_other _ _ _ _ hne hne2]
  split at hrr
  ·omega
  ·exact h.size r hr hrr
theorem many_range {n r : Nat} (h : r < n) : many (List.range n) r = 1 := by
 unfold many
 rw [show (fun v => v == r) = (· == r) from rfl]
 have : List.count r (List.range n) = 1 := List.nodup_range.count (a := r) ▸ by simp [h]
 simpa [List.count] using this
theorem Sized.ones (n : Nat) : Sized (List.replicate n 1) (List.range n) := by
 refine ⟨by simp, ?_⟩
 intro r hr _
 have hr' : r < n := by simpa using hr
 rw [many_range hr']; simp [gt, List.getD_eq_getElem?_getD, hr']
theorem sets_range (n : Nat) : sets (List.range n) = n := by
 unfold sets
 have : (List.range (List.range n).length).countP (fun i => (gt (List.range n) i) == i) = (List.range (List.range n).length).length := by
  rw [List.countP_eq_length]; intro i hi; rw [List.length_range, List.mem_range] at hi; rw [range_get hi]; simp
 rw [this]; simp
end Go.Proofs.Yteeihjpnhjnknaa.Sets
namespace Go.Proofs.Yteeihjpnhjnknaa.Sets
open Go.RowKit Go.Proofs.YteeihjpnhjnknaaW.PrintWords Go.Proofs.YteeihjpnhjnknaaW.PrintLast Go.Proofs.YteeihjpnhjnknaaW.PrintMore
set_option linter.unusedVariables false
set_option linter.unusedSimpArgs false
structure Frame (S : Nat → Prop) (w w' : World) : Prop where
 os : w'.os = w.os
 tape : w'.tape = w.tape
 output : w'.output = w.output
 size : w.heap.size ≤ w'.heap.size
 block : ∀ k, k < w.heap.size → ¬ S k → w'.heap[k]? = w.heap[k]?
theorem Frame.refl (S : Nat → Prop) (w : World) : Frame S w w := ⟨rfl, rfl, rfl, Nat.le_refl _, fun _ _ _ => rfl⟩
theorem Frame.trans {S : Nat → Prop} {a b c : World} (h : Frame S a b) (k : Frame S b c) : Frame S a c :=
 ⟨k.os.trans h.os, k.tape.trans h.tape, k.output.trans h.output, Nat.le_trans h.size k.size, fun i hi hs => (k.block i (Nat.lt_of_lt_of_le hi h.size) hs).trans (h.block i hi hs)⟩
theorem Frame.mono {S T : Nat → Prop} {a b : World} (h : Frame S a b) (hst : ∀ k, S k → T k) : Frame T a b := ⟨h.os, h.tape, h.output, h.size, fun i hi hs => h.block i hi (fun e => hs (hst i e))⟩
theorem Frame.drew {S : Nat → Prop} {a b : World} (h : Frame S a b) : Frame S a b.drew := ⟨h.os, h.tape, h.output, h.size, h.block⟩
theorem Frame.drewN {S : Nat → Prop} {a b : World} (h : Frame S a b) (n : Nat) : Frame S a (b.drewN n) := ⟨h.os, h.tape, h.output, h.size, h.block⟩
theorem Frame.setCell {S : Nat → Prop} {a b : World} (h : Frame S a b) {p : Addr} (hp : S p.block) (u : Value) : Frame S a (b.setCell p u) :=
 h.trans ⟨rfl, rfl, rfl, by simp [World.setCell], fun k _ hs => Below.heap_setCell _ _ _ _ (fun e => hs (e ▸ hp))⟩
theorem Frame.alloc {S : Nat → Prop} {a b : World} (h : Frame S a b) (o : Obj) : Frame S a (b.alloc o) :=
 h.trans ⟨rfl, rfl, rfl, by simp, fun k hk _ => Below.heap_alloc _ _ _ hk⟩
theorem Frame.below {S : Nat → Prop} {a b : World} (h : Frame S a b) {B : Nat} (hB : B ≤ a.heap.size) (hS : ∀ k, S k → B ≤ k) : Below B a b :=
 ⟨h.os, h.tape, h.output, h.size, fun k hk => h.block k (by omega) (fun e => by have := hS k e; omega)⟩
theorem Frame.blk {S : Nat → Prop} {a b : World} (h : Frame S a b) {k : Nat} {o : Obj} (hk : a.heap[k]? = some o) (hs : ¬ S k) : b.heap[k]? = some o := by
 rw [h.block k (by rw [Array.getElem?_eq_some_iff] at hk; exact hk.1) hs]; exact hk
def nv (l : List Nat) : Array Value := (l.map fun (x : Nat) => Value.int .i64 (x : Int)).toArray
theorem nv_get (l : List Nat) (i : Nat) (h : i < l.length) : (nv l)[i]? = some (.int .i64 (((gt l i) : Nat) : Int)) := by
 simp [nv, gt, List.getD_eq_getElem?_getD, h]
theorem nv_set (l : List Nat) (i x : Nat) : (nv l).setIfInBounds i (.int .i64 (x : Int)) = nv (l.set i x) := by
 simp [nv, List.map_set]
theorem blk_lt {w : World} {k : Nat} {o : Obj} (hk : w.heap[k]? = some o) : k < w.heap.size := by
 rw [Array.getElem?_eq_some_iff] at hk; exact hk.1
theorem blk_setCell {w : World} {b i : Nat} {c : Array Value} {T : TypeId} {f : Nat × Nat} (h : w.heap[b]? = some (.cells c T f)) (v : Value) : (w.setCell ⟨b, i, none⟩ v).heap[b]? = some (.cells (c.setIfInBounds i v) T f) := by
 simp [World.setCell, Array.getElem?_modify, h]
theorem nv_cell {w : World} {b : Nat} {l : List Nat} {T : TypeId} {f : Nat × Nat} (h : w.heap[b]? = some (.cells (nv l) T f)) {i : Nat} (hi : i < l.length) : w.cell? ⟨b, i, none⟩ = some (.int .i64 (((gt l i) : Nat) : Int)) := by
 simp [World.cell?, h, nv_get l i hi]
theorem blk_free {w : World} {b : Nat} {c : Array Value} {T : TypeId} (h : w.heap[b]? = some (.cells c T (0, 0))) (i : Nat) : w.frozen? ⟨b, i, none⟩ = false := by
 simp [World.frozen?, h]
theorem blk_set_nv {w : World} {b i x : Nat} {l : List Nat} {T : TypeId} {f : Nat × Nat} (h : w.heap[b]? = some (.cells (nv l) T f)) : (w.setCell ⟨b, i, none⟩ (.int .i64 (x : Int))).heap[b]? = some (.cells (nv (l.set i x)) T f) := by
 rw [blk_setCell h, nv_set]
set_option maxHeartbeats 400000 in
set_option maxRecDepth 100000 in
theorem known_calls (A : Option Addr) (n c : Nat) (a : Int) (w : World) :
  Calls Try.prog 87 #[.slice A n c, .int .i64 a] w fun e w' => e = .returned (.bool (decide (0 ≤ a) && decide (a < (n : Int)))) ∧ w = w' := by
 by_cases h : 0 ≤ a
 ·have h1 : decide (0 ≤ a) = true := decide_eq_true h
  go_enter Try.func87, Try.ntmps87
  go_wp2
  go_ret
  exact ⟨by simp [h], rfl⟩
 ·have h1 : decide (0 ≤ a) = false := decide_eq_false h
  go_enter Try.func87, Try.ntmps87
  go_wp2
  go_ret
  exact ⟨by simp, rfl⟩
def Climbed (b : Nat) (T : TypeId) (m : List Nat) (w w' : World) : Prop := ∃ P, Rep P m ∧ w'.heap[b]? = some (.cells (nv P) T (0, 0)) ∧ Frame (· = b) w w'
set_option maxHeartbeats 400000 in
set_option maxRecDepth 100000 in
theorem root_calls (b n c a : Nat) (T : TypeId) (P m : List Nat) (w : World) (hb : w.heap[b]? = some (.cells (nv P) T (0, 0))) (hr : Rep P m) (ha : a < m.length) (hn : n = m.length) (hm : m.length ≤ 1048576) :
  Calls Try.prog 81 #[.slice (some ⟨b, 0, none⟩) n c, .int .i64 (a : Int)] w fun e w' => e = .returned (.int .i64 (((gt m a) : Nat) : Int)) ∧ Climbed b T m w w' := by
 subst hn
 have HB := Aside0.mk hb
 have HR := Aside0.mk hr
 clear hb hr
 go_enter Try.func81, Try.ntmps81
 go_wp2
 go_loopw [1] (fun v wr => ∃ (i : Nat) (Q : List Nat), v = .int .i64 (i : Int) ∧ i < m.length ∧ Aside0 ((gt m i) = (gt m a)) ∧ Aside0 (Rep Q m) ∧ Aside0 (wr.heap[b]? = some (.cells (nv Q) T (0, 0))) ∧ Aside0 (Frame (· = b) w wr)) (fun v _ => (intOf v).toNat)
 case atStart => exact ⟨a, P, rfl, ha, ⟨rfl⟩, HR, HB, ⟨Frame.refl _ _⟩⟩
 case round =>
  obtain ⟨i, Q, rfl, hi, HE, HQ, HBQ, HF⟩ := hrel
  have hlen : Q.length = m.length := HQ.out.len
  have hc0 := nv_cell HBQ.out (i := i) (by omega)
  by_cases hq : (gt Q i) = i
  ·have ht : ((((gt Q i) : Nat) : Int) != (i : Int)) = false := by simp [hq]
   have HQ2 := Aside0.mk hq
   clear hq hlen
   go_wp2
   go_ret
   have e : i = gt m a := by rw [← HE.out]; exact ((HQ.out.fix i hi).1 HQ2.out).symm
   exact ⟨by rw [← e]; rfl, Q, HQ.out, HBQ.out, HF.out⟩
  ·have ht : ((((gt Q i) : Nat) : Int) != (i : Int)) = true := by simp; omega
   have hle := HQ.out.le i hi
   have hc1 := nv_cell HBQ.out (i := (gt Q i)) (by omega)
   have hf0 := blk_free HBQ.out i
   have HQ2 := Aside0.mk hq
   have HL := Aside0.mk hlen
   clear hq hlen
   have hi2 : gt Q i < m.length := by omega
   go_wp2
   have hi3 := HQ.out.le (gt Q i) hi2
   go_roundw
   case rel => exact ⟨gt Q (gt Q i), Q.set i (gt Q (gt Q i)), rfl, by omega, ⟨by rw [HQ.out.same _ hi2, HQ.out.same _ hi]; exact HE.out⟩, ⟨HQ.out.halve hi HQ2.out⟩, ⟨blk_set_nv HBQ.out⟩, ⟨HF.out.setCell rfl _⟩⟩
   case measure => have := HQ2.out; simp [intOf]; omega
end Go.Proofs.Yteeihjpnhjnknaa.Sets
namespace Go.Proofs.Yteeihjpnhjnknaa.Sets
open Go.RowKit Go.Proofs.YteeihjpnhjnknaaW.PrintWords Go.Proofs.YteeihjpnhjnknaaW.PrintLast Go.Proofs.YteeihjpnhjnknaaW.PrintMore
attribute [local go_sem] max2_int min2_int max_two min_two
set_option linter.unusedVariables false
set_option linter.unusedSimpArgs false
structure AtPS (w : World) (p bP bS : Nat) (m P S : List Nat) : Prop where
 obj : w.heap[p]? = some (.cells #[.slice (some ⟨bP, 0, none⟩) m.length m.length, .slice (some ⟨bS, 0, none⟩) m.length m.length, .int .i64 ((sets m : Nat) : Int)] 114 (0, 0))
 par : w.heap[bP]? = some (.cells (nv P) 3 (0, 0))
 siz : w.heap[bS]? = some (.cells (nv S) 3 (0, 0))
 ne1 : p ≠ bP
 ne2 : p ≠ bS
 ne3 : bP ≠ bS
 small : m.length ≤ 1048576
 rep : Rep P m
 sized : Sized S m
def At (w : World) (p bP bS : Nat) (m : List Nat) : Prop := ∃ P S, AtPS w p bP bS m P S
def Own (p bP bS : Nat) (k : Nat) : Prop := k = p ∨ k = bP ∨ k = bS
def Now (p bP bS : Nat) (m : List Nat) (w w' : World) : Prop := At w' p bP bS m ∧ Frame (Own p bP bS) w w'
def ok (m : List Nat) (a : Int) : Bool := decide (0 ≤ a) && decide (a < (m.length : Int))
theorem ok_nat {m : List Nat} {a : Int} (h : ok m a = true) : ∃ i : Nat, a = (i : Int) ∧ i < m.length := by
 simp only [ok, Bool.and_eq_true, decide_eq_true_eq] at h
 exact ⟨a.toNat, by omega, by omega⟩
theorem ok_of {m : List Nat} {i : Nat} (h : i < m.length) : ok m (i : Int) = true := by
 simp only [ok, Bool.and_eq_true, decide_eq_true_eq]; omega
theorem AtPS.cell0 {w : World} {p bP bS : Nat} {m P S : List Nat} (h : AtPS w p bP bS m P S) : w.cell? ⟨p, 0, none⟩ = some (.slice (some ⟨bP, 0, none⟩) m.length m.length) := (blk_cell h.obj 0).trans rfl
theorem AtPS.cell1 {w : World} {p bP bS : Nat} {m P S : List Nat} (h : AtPS w p bP bS m P S) : w.cell? ⟨p, 1, none⟩ = some (.slice (some ⟨bS, 0, none⟩) m.length m.length) := (blk_cell h.obj 1).trans rfl
theorem AtPS.cell2 {w : World} {p bP bS : Nat} {m P S : List Nat} (h : AtPS w p bP bS m P S) : w.cell? ⟨p, 2, none⟩ = some (.int .i64 ((sets m : Nat) : Int)) := (blk_cell h.obj 2).trans rfl
theorem AtPS.climbed {w w' : World} {p bP bS : Nat} {m P S : List Nat} (h : AtPS w p bP bS m P S) (k : Climbed bP 3 m w w') : ∃ Q, AtPS w' p bP bS m Q S ∧ Frame (Own p bP bS) w w' := by
 obtain ⟨Q, hr, hb, hf⟩ := k
 exact ⟨Q, ⟨hf.blk h.obj h.ne1, hb, hf.blk h.siz (Ne.symm h.ne3), h.ne1, h.ne2, h.ne3, h.small, hr, h.sized⟩, hf.mono fun _ e => .inr (.inl e)⟩
theorem AtPS.drewN {w : World} {p bP bS : Nat} {m P S : List Nat} (h : AtPS w p bP bS m P S) (n : Nat) : AtPS (w.drewN n) p bP bS m P S := ⟨h.obj, h.par, h.siz, h.ne1, h.ne2, h.ne3, h.small, h.rep, h.sized⟩
theorem AtPS.drew {w : World} {p bP bS : Nat} {m P S : List Nat} (h : AtPS w p bP bS m P S) : AtPS w.drew p bP bS m P S := ⟨h.obj, h.par, h.siz, h.ne1, h.ne2, h.ne3, h.small, h.rep, h.sized⟩
set_option maxHeartbeats 400000 in
set_option maxRecDepth 100000 in
theorem has_calls (p bP bS : Nat) (m P S : List Nat) (a : Int) (w : World) (h : AtPS w p bP bS m P S) :
  Calls Try.prog 80 #[.pointer (some ⟨p, 0, none⟩), .int .i64 a] w fun e w' => e = .returned (.bool (ok m a)) ∧ w = w' := by
 have h0 := h.cell0
 clear h
 go_enter Try.func80, Try.ntmps80
 go_wp2_with (go_at_call 87; refine (known_calls _ _ _ _ _).mono ?_; rintro e w' ⟨rfl, rfl⟩)
 go_ret
 exact ⟨rfl, rfl⟩
theorem has_keep {p bP bS : Nat} {m P S : List Nat} {a : Int} {r : Bool} (hr : ok m a = r) (w : World) (h : AtPS w p bP bS m P S) :
  Calls Try.prog 80 #[.pointer (some ⟨p, 0, none⟩), .int .i64 a] w fun e w' => e = .returned (.bool r) ∧ w = w' :=
 (has_calls p bP bS m P S a w h).mono fun _ _ ⟨h1, h2⟩ => ⟨by rw [h1, hr], h2⟩
def leastOf (m : List Nat) (a : Int) : Int := if ok m a then ((gt m a.toNat : Nat) : Int) else -1
end Go.Proofs.Yteeihjpnhjnknaa.Sets
namespace Go.Proofs.Yteeihjpnhjnknaa.Sets
open Go.RowKit Go.Proofs.YteeihjpnhjnknaaW.PrintWords Go.Proofs.YteeihjpnhjnknaaW.PrintLast Go.Proofs.YteeihjpnhjnknaaW.PrintMore
attribute [local go_sem] max2_int min2_int max_two min_two
set_option linter.unusedVariables false
set_option linter.unusedSimpArgs false
def sameOf (m : List Nat) (a b : Int) : Bool := ok m a && ok m b && (gt m a.toNat == gt m b.toNat)
def sizeOf (m : List Nat) (a : Int) : Int := if ok m a then ((many m (gt m a.toNat) : Nat) : Int) else 0
def joinOf (m : List Nat) (a b : Int) : List Nat × Bool :=
 if (ok m a && ok m b && (gt m a.toNat != gt m b.toNat)) = true then (glue (min (gt m a.toNat) (gt m b.toNat)) (max (gt m a.toNat) (gt m b.toNat)) m, true) else (m, false)
end Go.Proofs.Yteeihjpnhjnknaa.Sets
namespace Go.Proofs.Yteeihjpnhjnknaa.Sets
open Go.RowKit Go.Proofs.YteeihjpnhjnknaaW.PrintWords Go.Proofs.YteeihjpnhjnknaaW.PrintLast Go.Proofs.YteeihjpnhjnknaaW.PrintMore
attribute [local go_sem] max2_int min2_int max_two min_two
set_option linter.unusedVariables false
set_option linter.unusedSimpArgs false
theorem joinOf_no {m : List Nat} {a b : Int} (h : (ok m a && ok m b && (gt m a.toNat != gt m b.toNat)) = false) : joinOf m a b = (m, false) := by
 unfold joinOf; rw [h]; rfl
set_option maxHeartbeats 1000000 in
set_option maxRecDepth 100000 in
theorem join_no (p bP bS : Nat) (m P S : List Nat) (a b : Int) (w : World) (h : AtPS w p bP bS m P S) (hno : (ok m a && ok m b) = false) :
  Calls Try.prog 73 #[.pointer (some ⟨p, 0, none⟩), .int .i64 a, .int .i64 b] w fun e w' => e = .returned (.bool (joinOf m a b).2) ∧ Now p bP bS (joinOf m a b).1 w w' := by
 have H := Aside0.mk h
 clear h
 rw [joinOf_no (by rw [hno]; rfl)]
 cases ha : ok m a
 ·have Q1 := Aside0.mk (fun W => has_keep (p := p) (bP := bP) (bS := bS) (P := P) (S := S) ha W)
  clear ha hno
  go_enter Try.func73, Try.ntmps73
  go_wp2_with (go_at_call 80; refine (Q1.out _ H.out).mono ?_; rintro e w' ⟨rfl, rfl⟩)
  go_ret
  exact ⟨rfl, ⟨P, S, H.out⟩, Frame.refl _ _⟩
 ·have hb : ok m b = false := by rw [ha] at hno; simpa using hno
  obtain ⟨i, rfl, hi⟩ := ok_nat ha
  have Q1 := Aside0.mk (fun W => has_keep (p := p) (bP := bP) (bS := bS) (P := P) (S := S) ha W)
  have Q2 := Aside0.mk (fun W => has_keep (p := p) (bP := bP) (bS := bS) (P := P) (S := S) hb W)
  clear ha hb hno
  go_enter Try.func73, Try.ntmps73
  go_wp2_with (go_at_call 80; (first | (with_reducible refine (Q1.out _ H.out).mono ?_) | (with_reducible refine (Q2.out _ H.out).mono ?_)); rintro e w' ⟨rfl, rfl⟩)
  go_ret
  exact ⟨rfl, ⟨P, S, H.out⟩, Frame.refl _ _⟩
set_option maxHeartbeats 1000000 in
set_option maxRecDepth 100000 in
theorem join_same (p bP bS : Nat) (m P S : List Nat) (i j : Nat) (w : World) (h : AtPS w p bP bS m P S) (hi : i < m.length) (hj : j < m.length) (hs : gt m i = gt m j) :
  Calls Try.prog 73 #[.pointer (some ⟨p, 0, none⟩), .int .i64 (i : Int), .int .i64 (j : Int)] w fun e w' => e = .returned (.bool (joinOf m i j).2) ∧ Now p bP bS (joinOf m i j).1 w w' := by
 have H := Aside0.mk h
 clear h
 rw [joinOf_no (by simp [hs])]
 have Q1 := Aside0.mk (fun W => has_keep (p := p) (bP := bP) (bS := bS) (P := P) (S := S) (ok_of hi) W)
 have Q2 := Aside0.mk (fun W => has_keep (p := p) (bP := bP) (bS := bS) (P := P) (S := S) (ok_of hj) W)
 have ht : ((gt m i : Int) == (gt m j : Int)) = true := by rw [hs]; simp
 clear hs
 go_enter Try.func73, Try.ntmps73
 go_wp2_with (go_at_call 80; (first | (with_reducible refine (Q1.out _ H.out).mono ?_) | (with_reducible refine (Q2.out _ H.out).mono ?_)); rintro e w' ⟨rfl, rfl⟩)
 refine start_ (n := 14) (S := fun w' => w'.cell? ⟨p, 0, none⟩ = some (.slice (some ⟨bP, 0, none⟩) m.length m.length) ∧ Aside0 (At w' p bP bS m) ∧ Aside0 (Frame (Own p bP bS) w w')) (ds := []) #[false, false, false, false, false, false, false, false, false, false, false, false, false, false] (by kernel_rfl) rfl rfl ⟨H.out.drew.cell0, ⟨⟨P, S, H.out.drew⟩⟩, ⟨(Frame.refl _ _).drew⟩⟩ (fun hHeld => ?_)
 refine pure_ (i := 0) (N := some 19) (v := ?_) (a' := ?_) #[true, false, false, false, false, false, false, false, false, false, false, false, false, false] rfl rfl (by kernel_rfl) (fun _ _ _ h => h) (Or.inl ⟨by rfl, ?_⟩) ?_ ?_
 rotate_left
 ·intro w'
  go_simp
  with_reducible rfl
 rotate_left
 ·simp only [Act.put, List.setIfInBounds_toArray, List.set_cons_zero, List.set_cons_succ, i64_w, i32_w]
  rfl
 refine pure_ (i := 1) (N := some 20) (v := ?_) (a' := ?_) #[true, true, false, false, false, false, false, false, false, false, false, false, false, false] rfl rfl (by kernel_rfl) (fun _ _ _ h => h) (Or.inl ⟨by rfl, ?_⟩) ?_ ?_
 rotate_left
 ·intro w'
  go_simp
  with_reducible rfl
 rotate_left
 ·simp only [Act.put, List.setIfInBounds_toArray, List.set_cons_zero, List.set_cons_succ, i64_w, i32_w]
  rfl
 refine pure_ (i := 2) (N := some 21) (v := ?_) (a' := ?_) #[true, true, true, false, false, false, false, false, false, false, false, false, false, false] rfl rfl (by kernel_rfl) (fun _ _ _ h => h) (Or.inl ⟨by rfl, ?_⟩) ?_ ?_
 rotate_left
 ·intro w'
  go_simp
  with_reducible rfl
 rotate_left
 ·simp only [Act.put, List.setIfInBounds_toArray, List.set_cons_zero, List.set_cons_succ, i64_w, i32_w]
  rfl
 refine pure_ (i := 4) (N := some 23) (v := ?_) (a' := ?_) #[true, true, true, false, true, false, false, false, false, false, false, false, false, false] rfl rfl (by kernel_rfl) (fun _ _ _ h => h) (Or.inl ⟨by rfl, ?_⟩) ?_ ?_
 rotate_left
 ·intro w'
  go_simp
  with_reducible rfl
 rotate_left
 ·simp only [Act.put, List.setIfInBounds_toArray, List.set_cons_zero, List.set_cons_succ, i64_w, i32_w]
  rfl
 refine pure_ (i := 6) (N := some 25) (v := ?_) (a' := ?_) #[true, true, true, false, true, false, true, false, false, false, false, false, false, false] rfl rfl (by kernel_rfl) (fun _ _ _ h => h) (Or.inl ⟨by rfl, ?_⟩) ?_ ?_
 rotate_left
 ·intro w'
  go_simp
  with_reducible rfl
 rotate_left
 ·simp only [Act.put, List.setIfInBounds_toArray, List.set_cons_zero, List.set_cons_succ, i64_w, i32_w]
  rfl
 refine pure_ (i := 7) (N := some 26) (v := ?_) (a' := ?_) #[true, true, true, false, true, false, true, true, false, false, false, false, false, false] rfl rfl (by kernel_rfl) (fun _ _ _ h => h) (Or.inl ⟨by rfl, ?_⟩) ?_ ?_
 rotate_left
 ·intro w'
  go_simp
  with_reducible rfl
 rotate_left
 ·simp only [Act.put, List.setIfInBounds_toArray, List.set_cons_zero, List.set_cons_succ, i64_w, i32_w]
  rfl
 refine pure_ (i := 8) (N := some 27) (v := ?_) (a' := ?_) #[true, true, true, false, true, false, true, true, true, false, false, false, false, false] rfl rfl (by kernel_rfl) (fun _ _ _ h => h) (Or.inl ⟨by rfl, ?_⟩) ?_ ?_
 rotate_left
 ·intro w'
  go_simp
  with_reducible rfl
 rotate_left
 ·simp only [Act.put, List.setIfInBounds_toArray, List.set_cons_zero, List.set_cons_succ, i64_w, i32_w]
  rfl
 refine pure_ (i := 10) (N := some 29) (v := ?_) (a' := ?_) #[true, true, true, false, true, false, true, true, true, false, true, false, false, false] rfl rfl (by kernel_rfl) (fun _ _ _ h => h) (Or.inl ⟨by rfl, ?_⟩) ?_ ?_
 rotate_left
 ·intro w'
  go_simp
  with_reducible rfl
 rotate_left
 ·simp only [Act.put, List.setIfInBounds_toArray, List.set_cons_zero, List.set_cons_succ, i64_w, i32_w]
  rfl
 refine take_ (i := 3) (N := some 22) (v := ?_) (a' := ?_) #[true, true, true, true, true, false, true, true, true, false, true, false, false, false] rfl rfl (by kernel_rfl) (fun _ _ _ h => h) (Or.inl ⟨by rfl, ?_⟩) hHeld ?_ ?_
 rotate_left
 ·rintro w' ⟨s0, s1, s2⟩
  go_simp
  with_reducible rfl
 rotate_left
 ·simp only [Act.put, List.setIfInBounds_toArray, List.set_cons_zero, List.set_cons_succ, i64_w, i32_w]
  rfl
 refine take_ (i := 9) (N := some 28) (v := ?_) (a' := ?_) #[true, true, true, true, true, false, true, true, true, true, true, false, false, false] rfl rfl (by kernel_rfl) (fun _ _ _ h => h) (Or.inl ⟨by rfl, ?_⟩) hHeld ?_ ?_
 rotate_left
 ·rintro w' ⟨s0, s1, s2⟩
  go_simp
  with_reducible rfl
 rotate_left
 ·simp only [Act.put, List.setIfInBounds_toArray, List.set_cons_zero, List.set_cons_succ, i64_w, i32_w]
  rfl
 refine one_ (i := 5) (N := some 24) #[true, true, true, true, true, true, true, true, true, true, true, false, false, false] rfl rfl (by kernel_rfl) (by decide) (fun K hK => ?_)
 obtain ⟨h0, HA, HF⟩ := hHeld
 obtain ⟨P1, S1, H1⟩ := HA.out
 refine goes_ Try.func81 (by kernel_rfl) rfl #[.slice (some ⟨bP, 0, none⟩) m.length m.length, .int .i64 (i : Int)] (by rfl) rfl rfl (by simp only [List.map_toArray, List.map_cons, List.map_nil]; rfl) ?_
 with_reducible refine (root_calls bP m.length m.length i _ P1 m _ H1.par H1.rep hi rfl H1.small).mono ?_
 rintro e w3 ⟨rfl, hc⟩
 refine ⟨_, rfl, ?_⟩
 obtain ⟨Q, h1, h2⟩ := H1.climbed hc
 clear hc
 refine hK.out _ _ ⟨h1.cell0, ⟨⟨Q, S1, h1⟩⟩, ⟨HF.out.trans h2⟩⟩ (fun hHeld => ?_)
 clear hK K
 refine norm_ (a' := ?_) ?_ ?_
 rotate_left
 ·show Act.put _ (some 24) _ = _
  simp only [Act.put, List.setIfInBounds_toArray, List.set_cons_zero, List.set_cons_succ, i64_w, i32_w]
  rfl
 refine one_ (i := 11) (N := some 30) #[true, true, true, true, true, true, true, true, true, true, true, true, false, false] rfl rfl (by kernel_rfl) (by decide) (fun K hK => ?_)
 obtain ⟨h0, HA, HF⟩ := hHeld
 obtain ⟨P1, S1, H1⟩ := HA.out
 refine goes_ Try.func81 (by kernel_rfl) rfl #[.slice (some ⟨bP, 0, none⟩) m.length m.length, .int .i64 (j : Int)] (by rfl) rfl rfl (by simp only [List.map_toArray, List.map_cons, List.map_nil]; rfl) ?_
 with_reducible refine (root_calls bP m.length m.length j _ P1 m _ H1.par H1.rep hj rfl H1.small).mono ?_
 rintro e w3 ⟨rfl, hc⟩
 refine ⟨_, rfl, ?_⟩
 obtain ⟨Q, h1, h2⟩ := H1.climbed hc
 clear hc
 refine hK.out _ _ ⟨h1.cell0, ⟨⟨Q, S1, h1⟩⟩, ⟨HF.out.trans h2⟩⟩ (fun hHeld => ?_)
 clear hK K
 refine norm_ (a' := ?_) ?_ ?_
 rotate_left
 ·show Act.put _ (some 30) _ = _
  simp only [Act.put, List.setIfInBounds_toArray, List.set_cons_zero, List.set_cons_succ, i64_w, i32_w]
  rfl
 refine pure_ (i := 12) (N := some 7) (v := ?_) (a' := ?_) #[true, true, true, true, true, true, true, true, true, true, true, true, true, false] rfl rfl (by kernel_rfl) (fun _ _ _ h => h) (Or.inl ⟨by rfl, ?_⟩) ?_ ?_
 rotate_left
 ·intro w'
  go_simp
  with_reducible rfl
 rotate_left
 ·simp only [Act.put, List.setIfInBounds_toArray, List.set_cons_zero, List.set_cons_succ, i64_w, i32_w]
  rfl
 refine pure_ (i := 13) (N := some 8) (v := ?_) (a' := ?_) #[true, true, true, true, true, true, true, true, true, true, true, true, true, true] rfl rfl (by kernel_rfl) (fun _ _ _ h => h) (Or.inl ⟨by rfl, ?_⟩) ?_ ?_
 rotate_left
 ·intro w'
  go_simp
  with_reducible rfl
 rotate_left
 ·simp only [Act.put, List.setIfInBounds_toArray, List.set_cons_zero, List.set_cons_succ, i64_w, i32_w]
  rfl
 refine done_ (by kernel_rfl) ?_
 obtain ⟨_, HA, HF⟩ := hHeld
 go_wp2
 go_ret
 exact ⟨rfl, HA.out, HF.out⟩
structure MidPS (w : World) (p bP bS n : Nat) (P S : List Nat) (c : Nat) : Prop where
 obj : w.heap[p]? = some (.cells #[.slice (some ⟨bP, 0, none⟩) n n, .slice (some ⟨bS, 0, none⟩) n n, .int .i64 (c : Int)] 114 (0, 0))
 par : w.heap[bP]? = some (.cells (nv P) 3 (0, 0))
 siz : w.heap[bS]? = some (.cells (nv S) 3 (0, 0))
 ne1 : p ≠ bP
 ne2 : p ≠ bS
 ne3 : bP ≠ bS
theorem heap_setCell_ne {w : World} {b i k : Nat} {v : Value} {o : Obj} (h : w.heap[k]? = some o) (hk : k ≠ b) : (w.setCell ⟨b, i, none⟩ v).heap[k]? = some o := by
 rw [Below.heap_setCell _ _ _ _ hk]; exact h
theorem AtPS.mid {w : World} {p bP bS : Nat} {m P S : List Nat} (h : AtPS w p bP bS m P S) : MidPS w p bP bS m.length P S (sets m) := ⟨h.obj, h.par, h.siz, h.ne1, h.ne2, h.ne3⟩
theorem MidPS.drew {w : World} {p bP bS n c : Nat} {P S : List Nat} (h : MidPS w p bP bS n P S c) : MidPS w.drew p bP bS n P S c := ⟨h.obj, h.par, h.siz, h.ne1, h.ne2, h.ne3⟩
theorem MidPS.setPar {w : World} {p bP bS n c : Nat} {P S : List Nat} (h : MidPS w p bP bS n P S c) (i x : Nat) : MidPS (w.setCell ⟨bP, i, none⟩ (.int .i64 (x : Int))) p bP bS n (P.set i x) S c :=
 ⟨heap_setCell_ne h.obj h.ne1, blk_set_nv h.par, heap_setCell_ne h.siz (Ne.symm h.ne3), h.ne1, h.ne2, h.ne3⟩
theorem MidPS.setSiz {w : World} {p bP bS n c : Nat} {P S : List Nat} (h : MidPS w p bP bS n P S c) (i x : Nat) : MidPS (w.setCell ⟨bS, i, none⟩ (.int .i64 (x : Int))) p bP bS n P (S.set i x) c :=
 ⟨heap_setCell_ne h.obj h.ne2, heap_setCell_ne h.par h.ne3, blk_set_nv h.siz, h.ne1, h.ne2, h.ne3⟩
theorem MidPS.setCount {w : World} {p bP bS n c : Nat} {P S : List Nat} (h : MidPS w p bP bS n P S c) (x : Nat) : MidPS (w.setCell ⟨p, 2, none⟩ (.int .i64 (x : Int))) p bP bS n P S x :=
 ⟨by rw [blk_setCell h.obj]; rfl, heap_setCell_ne h.par (Ne.symm h.ne1), heap_setCell_ne h.siz (Ne.symm h.ne2), h.ne1, h.ne2, h.ne3⟩
theorem MidPS.cell0 {w : World} {p bP bS n c : Nat} {P S : List Nat} (h : MidPS w p bP bS n P S c) : w.cell? ⟨p, 0, none⟩ = some (.slice (some ⟨bP, 0, none⟩) n n) := (blk_cell h.obj 0).trans rfl
theorem MidPS.cell1 {w : World} {p bP bS n c : Nat} {P S : List Nat} (h : MidPS w p bP bS n P S c) : w.cell? ⟨p, 1, none⟩ = some (.slice (some ⟨bS, 0, none⟩) n n) := (blk_cell h.obj 1).trans rfl
theorem MidPS.cell2 {w : World} {p bP bS n c : Nat} {P S : List Nat} (h : MidPS w p bP bS n P S c) : w.cell? ⟨p, 2, none⟩ = some (.int .i64 (c : Int)) := (blk_cell h.obj 2).trans rfl
set_option maxHeartbeats 1000000 in
set_option maxRecDepth 100000 in
theorem join_lt (p bP bS : Nat) (m P S : List Nat) (i j : Nat) (w : World) (h : AtPS w p bP bS m P S) (hi : i < m.length) (hj : j < m.length) (hlt : gt m i < gt m j) :
  Calls Try.prog 73 #[.pointer (some ⟨p, 0, none⟩), .int .i64 (i : Int), .int .i64 (j : Int)] w fun e w' => e = .returned (.bool true) ∧ Now p bP bS (glue (gt m i) (gt m j) m) w w' := by
 have H := Aside0.mk h
 have Q1 := Aside0.mk (fun W => has_keep (p := p) (bP := bP) (bS := bS) (P := P) (S := S) (ok_of hi) W)
 have Q2 := Aside0.mk (fun W => has_keep (p := p) (bP := bP) (bS := bS) (P := P) (S := S) (ok_of hj) W)
 have ht : ((gt m i : Int) == (gt m j : Int)) = false := by simp only [beq_eq_false_iff_ne]; omega
 have HL := Aside0.mk (h.rep.mm hi)
 have HH := Aside0.mk (h.rep.mm hj)
 have hlo : gt m i < m.length := by have := h.rep.ml hi; omega
 have hhi : gt m j < m.length := by have := h.rep.ml hj; omega
 have hsm := h.small
 clear h
 go_enter Try.func73, Try.ntmps73
 go_wp2_with (go_at_call 80; (first | (with_reducible refine (Q1.out _ H.out).mono ?_) | (with_reducible refine (Q2.out _ H.out).mono ?_)); rintro e w' ⟨rfl, rfl⟩)
 refine start_ (n := 14) (S := fun w' => w'.cell? ⟨p, 0, none⟩ = some (.slice (some ⟨bP, 0, none⟩) m.length m.length) ∧ Aside0 (At w' p bP bS m) ∧ Aside0 (Frame (Own p bP bS) w w')) (ds := []) #[false, false, false, false, false, false, false, false, false, false, false, false, false, false] (by kernel_rfl) rfl rfl ⟨H.out.drew.cell0, ⟨⟨P, S, H.out.drew⟩⟩, ⟨(Frame.refl _ _).drew⟩⟩ (fun hHeld => ?_)
 refine pure_ (i := 0) (N := some 19) (v := ?_) (a' := ?_) #[true, false, false, false, false, false, false, false, false, false, false, false, false, false] rfl rfl (by kernel_rfl) (fun _ _ _ h => h) (Or.inl ⟨by rfl, ?_⟩) ?_ ?_
 rotate_left
 ·intro w'
  go_simp
  with_reducible rfl
 rotate_left
 ·simp only [Act.put, List.setIfInBounds_toArray, List.set_cons_zero, List.set_cons_succ, i64_w, i32_w]
  rfl
 refine pure_ (i := 1) (N := some 20) (v := ?_) (a' := ?_) #[true, true, false, false, false, false, false, false, false, false, false, false, false, false] rfl rfl (by kernel_rfl) (fun _ _ _ h => h) (Or.inl ⟨by rfl, ?_⟩) ?_ ?_
 rotate_left
 ·intro w'
  go_simp
  with_reducible rfl
 rotate_left
 ·simp only [Act.put, List.setIfInBounds_toArray, List.set_cons_zero, List.set_cons_succ, i64_w, i32_w]
  rfl
 refine pure_ (i := 2) (N := some 21) (v := ?_) (a' := ?_) #[true, true, true, false, false, false, false, false, false, false, false, false, false, false] rfl rfl (by kernel_rfl) (fun _ _ _ h => h) (Or.inl ⟨by rfl, ?_⟩) ?_ ?_
 rotate_left
 ·intro w'
  go_simp
  with_reducible rfl
 rotate_left
 ·simp only [Act.put, List.setIfInBounds_toArray, List.set_cons_zero, List.set_cons_succ, i64_w, i32_w]
  rfl
 refine pure_ (i := 4) (N := some 23) (v := ?_) (a' := ?_) #[true, true, true, false, true, false, false, false, false, false, false, false, false, false] rfl rfl (by kernel_rfl) (fun _ _ _ h => h) (Or.inl ⟨by rfl, ?_⟩) ?_ ?_
 rotate_left
 ·intro w'
  go_simp
  with_reducible rfl
 rotate_left
 ·simp only [Act.put, List.setIfInBounds_toArray, List.set_cons_zero, List.set_cons_succ, i64_w, i32_w]
  rfl
 refine pure_ (i := 6) (N := some 25) (v := ?_) (a' := ?_) #[true, true, true, false, true, false, true, false, false, false, false, false, false, false] rfl rfl (by kernel_rfl) (fun _ _ _ h => h) (Or.inl ⟨by rfl, ?_⟩) ?_ ?_
 rotate_left
 ·intro w'
  go_simp
  with_reducible rfl
 rotate_left
 ·simp only [Act.put, List.setIfInBounds_toArray, List.set_cons_zero, List.set_cons_succ, i64_w, i32_w]
  rfl
 refine pure_ (i := 7) (N := some 26) (v := ?_) (a' := ?_) #[true, true, true, false, true, false, true, true, false, false, false, false, false, false] rfl rfl (by kernel_rfl) (fun _ _ _ h => h) (Or.inl ⟨by rfl, ?_⟩) ?_ ?_
 rotate_left
 ·intro w'
  go_simp
  with_reducible rfl
 rotate_left
 ·simp only [Act.put, List.setIfInBounds_toArray, List.set_cons_zero, List.set_cons_succ, i64_w, i32_w]
  rfl
 refine pure_ (i := 8) (N := some 27) (v := ?_) (a' := ?_) #[true, true, true, false, true, false, true, true, true, false, false, false, false, false] rfl rfl (by kernel_rfl) (fun _ _ _ h => h) (Or.inl ⟨by rfl, ?_⟩) ?_ ?_
 rotate_left
 ·intro w'
  go_simp
  with_reducible rfl
 rotate_left
 ·simp only [Act.put, List.setIfInBounds_toArray, List.set_cons_zero, List.set_cons_succ, i64_w, i32_w]
  rfl
 refine pure_ (i := 10) (N := some 29) (v := ?_) (a' := ?_) #[true, true, true, false, true, false, true, true, true, false, true, false, false, false] rfl rfl (by kernel_rfl) (fun _ _ _ h => h) (Or.inl ⟨by rfl, ?_⟩) ?_ ?_
 rotate_left
 ·intro w'
  go_simp
  with_reducible rfl
 rotate_left
 ·simp only [Act.put, List.setIfInBounds_toArray, List.set_cons_zero, List.set_cons_succ, i64_w, i32_w]
  rfl
 refine take_ (i := 3) (N := some 22) (v := ?_) (a' := ?_) #[true, true, true, true, true, false, true, true, true, false, true, false, false, false] rfl rfl (by kernel_rfl) (fun _ _ _ h => h) (Or.inl ⟨by rfl, ?_⟩) hHeld ?_ ?_
 rotate_left
 ·rintro w' ⟨s0, s1, s2⟩
  go_simp
  with_reducible rfl
 rotate_left
 ·simp only [Act.put, List.setIfInBounds_toArray, List.set_cons_zero, List.set_cons_succ, i64_w, i32_w]
  rfl
 refine take_ (i := 9) (N := some 28) (v := ?_) (a' := ?_) #[true, true, true, true, true, false, true, true, true, true, true, false, false, false] rfl rfl (by kernel_rfl) (fun _ _ _ h => h) (Or.inl ⟨by rfl, ?_⟩) hHeld ?_ ?_
 rotate_left
 ·rintro w' ⟨s0, s1, s2⟩
  go_simp
  with_reducible rfl
 rotate_left
 ·simp only [Act.put, List.setIfInBounds_toArray, List.set_cons_zero, List.set_cons_succ, i64_w, i32_w]
  rfl
 refine one_ (i := 5) (N := some 24) #[true, true, true, true, true, true, true, true, true, true, true, false, false, false] rfl rfl (by kernel_rfl) (by decide) (fun K hK => ?_)
 obtain ⟨h0, HA, HF⟩ := hHeld
 obtain ⟨P1, S1, H1⟩ := HA.out
 refine goes_ Try.func81 (by kernel_rfl) rfl #[.slice (some ⟨bP, 0, none⟩) m.length m.length, .int .i64 (i : Int)] (by rfl) rfl rfl (by simp only [List.map_toArray, List.map_cons, List.map_nil]; rfl) ?_
 with_reducible refine (root_calls bP m.length m.length i _ P1 m _ H1.par H1.rep hi rfl H1.small).mono ?_
 rintro e w3 ⟨rfl, hc⟩
 refine ⟨_, rfl, ?_⟩
 obtain ⟨Q, h1, h2⟩ := H1.climbed hc
 clear hc
 refine hK.out _ _ ⟨h1.cell0, ⟨⟨Q, S1, h1⟩⟩, ⟨HF.out.trans h2⟩⟩ (fun hHeld => ?_)
 clear hK K
 refine norm_ (a' := ?_) ?_ ?_
 rotate_left
 ·show Act.put _ (some 24) _ = _
  simp only [Act.put, List.setIfInBounds_toArray, List.set_cons_zero, List.set_cons_succ, i64_w, i32_w]
  rfl
 refine one_ (i := 11) (N := some 30) #[true, true, true, true, true, true, true, true, true, true, true, true, false, false] rfl rfl (by kernel_rfl) (by decide) (fun K hK => ?_)
 obtain ⟨h0, HA, HF⟩ := hHeld
 obtain ⟨P1, S1, H1⟩ := HA.out
 refine goes_ Try.func81 (by kernel_rfl) rfl #[.slice (some ⟨bP, 0, none⟩) m.length m.length, .int .i64 (j : Int)] (by rfl) rfl rfl (by simp only [List.map_toArray, List.map_cons, List.map_nil]; rfl) ?_
 with_reducible refine (root_calls bP m.length m.length j _ P1 m _ H1.par H1.rep hj rfl H1.small).mono ?_
 rintro e w3 ⟨rfl, hc⟩
 refine ⟨_, rfl, ?_⟩
 obtain ⟨Q, h1, h2⟩ := H1.climbed hc
 clear hc
 refine hK.out _ _ ⟨h1.cell0, ⟨⟨Q, S1, h1⟩⟩, ⟨HF.out.trans h2⟩⟩ (fun hHeld => ?_)
 clear hK K
 refine norm_ (a' := ?_) ?_ ?_
 rotate_left
 ·show Act.put _ (some 30) _ = _
  simp only [Act.put, List.setIfInBounds_toArray, List.set_cons_zero, List.set_cons_succ, i64_w, i32_w]
  rfl
 refine pure_ (i := 12) (N := some 7) (v := ?_) (a' := ?_) #[true, true, true, true, true, true, true, true, true, true, true, true, true, false] rfl rfl (by kernel_rfl) (fun _ _ _ h => h) (Or.inl ⟨by rfl, ?_⟩) ?_ ?_
 rotate_left
 ·intro w'
  go_simp
  with_reducible rfl
 rotate_left
 ·simp only [Act.put, List.setIfInBounds_toArray, List.set_cons_zero, List.set_cons_succ, i64_w, i32_w]
  rfl
 refine pure_ (i := 13) (N := some 8) (v := ?_) (a' := ?_) #[true, true, true, true, true, true, true, true, true, true, true, true, true, true] rfl rfl (by kernel_rfl) (fun _ _ _ h => h) (Or.inl ⟨by rfl, ?_⟩) ?_ ?_
 rotate_left
 ·intro w'
  go_simp
  with_reducible rfl
 rotate_left
 ·simp only [Act.put, List.setIfInBounds_toArray, List.set_cons_zero, List.set_cons_succ, i64_w, i32_w]
  rfl
 refine done_ (by kernel_rfl) ?_
 obtain ⟨h0, HA, HF⟩ := hHeld
 obtain ⟨P1, S1, H1⟩ := HA.out
 have H2 := Aside0.mk H1
 clear H1 HA H Q1 Q2
 have hf := blk_free H2.out.par (gt m j)
 have hol := nv_cell H2.out.par (i := gt m j) (by have := H2.out.rep.len; omega)
 have hpair := many_pair m (r := gt m i) (s := gt m j) (by omega)
 have HG := Aside0.mk (sets_glue H2.out.rep hhi hlt HL.out HH.out)
 have hsets := sets_le m
 go_wp2
 have M1 := Aside0.mk (H2.out.mid.setPar (gt m j) (gt m i))
 have hwr : IntKind.i64.wrap ((many m (gt m i) : Int) + (many m (gt m j) : Int)) = (many m (gt m i) : Int) + (many m (gt m j) : Int) := IntWalk.i64_in _ (by omega)
 refine start_ (n := 17) (S := fun w' => w'.cell? ⟨p, 1, none⟩ = some (.slice (some ⟨bS, 0, none⟩) m.length m.length) ∧ w'.cell? ⟨bS, gt m i, none⟩ = some (.int .i64 ((many m (gt m i) : Nat) : Int)) ∧ w'.cell? ⟨bS, gt m j, none⟩ = some (.int .i64 ((many m (gt m j) : Nat) : Int)) ∧ w'.frozen? ⟨bS, gt m i, none⟩ = false) (ds := [16]) #[false, false, false, false, false, false, false, false, false, false, false, false, false, false, false, false, false] (by kernel_rfl) rfl rfl ⟨M1.out.drew.cell1, by rw [nv_cell M1.out.drew.siz (by have := H2.out.sized.len; omega), H2.out.sized.size _ hlo HL.out], by rw [nv_cell M1.out.drew.siz (by have := H2.out.sized.len; omega), H2.out.sized.size _ hhi HH.out], blk_free M1.out.drew.siz _⟩ (fun hHeld => ?_)
 refine pure_ (i := 0) (N := some 47) (v := ?_) (a' := ?_) #[true, false, false, false, false, false, false, false, false, false, false, false, false, false, false, false, false] rfl rfl (by kernel_rfl) (fun _ _ _ h => h) (Or.inl ⟨by rfl, ?_⟩) ?_ ?_
 rotate_left
 ·intro w'
  go_simp
  with_reducible rfl
 rotate_left
 ·simp only [Act.put, List.setIfInBounds_toArray, List.set_cons_zero, List.set_cons_succ, i64_w, i32_w]
  rfl
 refine pure_ (i := 1) (N := some 48) (v := ?_) (a' := ?_) #[true, true, false, false, false, false, false, false, false, false, false, false, false, false, false, false, false] rfl rfl (by kernel_rfl) (fun _ _ _ h => h) (Or.inl ⟨by rfl, ?_⟩) ?_ ?_
 rotate_left
 ·intro w'
  go_simp
  with_reducible rfl
 rotate_left
 ·simp only [Act.put, List.setIfInBounds_toArray, List.set_cons_zero, List.set_cons_succ, i64_w, i32_w]
  rfl
 refine pure_ (i := 2) (N := some 49) (v := ?_) (a' := ?_) #[true, true, true, false, false, false, false, false, false, false, false, false, false, false, false, false, false] rfl rfl (by kernel_rfl) (fun _ _ _ h => h) (Or.inl ⟨by rfl, ?_⟩) ?_ ?_
 rotate_left
 ·intro w'
  go_simp
  with_reducible rfl
 rotate_left
 ·simp only [Act.put, List.setIfInBounds_toArray, List.set_cons_zero, List.set_cons_succ, i64_w, i32_w]
  rfl
 refine pure_ (i := 4) (N := some 51) (v := ?_) (a' := ?_) #[true, true, true, false, true, false, false, false, false, false, false, false, false, false, false, false, false] rfl rfl (by kernel_rfl) (fun _ _ _ h => h) (Or.inl ⟨by rfl, ?_⟩) ?_ ?_
 rotate_left
 ·intro w'
  go_simp
  with_reducible rfl
 rotate_left
 ·simp only [Act.put, List.setIfInBounds_toArray, List.set_cons_zero, List.set_cons_succ, i64_w, i32_w]
  rfl
 refine pure_ (i := 7) (N := some 54) (v := ?_) (a' := ?_) #[true, true, true, false, true, false, false, true, false, false, false, false, false, false, false, false, false] rfl rfl (by kernel_rfl) (fun _ _ _ h => h) (Or.inl ⟨by rfl, ?_⟩) ?_ ?_
 rotate_left
 ·intro w'
  go_simp
  with_reducible rfl
 rotate_left
 ·simp only [Act.put, List.setIfInBounds_toArray, List.set_cons_zero, List.set_cons_succ, i64_w, i32_w]
  rfl
 refine pure_ (i := 8) (N := some 55) (v := ?_) (a' := ?_) #[true, true, true, false, true, false, false, true, true, false, false, false, false, false, false, false, false] rfl rfl (by kernel_rfl) (fun _ _ _ h => h) (Or.inl ⟨by rfl, ?_⟩) ?_ ?_
 rotate_left
 ·intro w'
  go_simp
  with_reducible rfl
 rotate_left
 ·simp only [Act.put, List.setIfInBounds_toArray, List.set_cons_zero, List.set_cons_succ, i64_w, i32_w]
  rfl
 refine pure_ (i := 9) (N := some 56) (v := ?_) (a' := ?_) #[true, true, true, false, true, false, false, true, true, true, false, false, false, false, false, false, false] rfl rfl (by kernel_rfl) (fun _ _ _ h => h) (Or.inl ⟨by rfl, ?_⟩) ?_ ?_
 rotate_left
 ·intro w'
  go_simp
  with_reducible rfl
 rotate_left
 ·simp only [Act.put, List.setIfInBounds_toArray, List.set_cons_zero, List.set_cons_succ, i64_w, i32_w]
  rfl
 refine pure_ (i := 11) (N := some 58) (v := ?_) (a' := ?_) #[true, true, true, false, true, false, false, true, true, true, false, true, false, false, false, false, false] rfl rfl (by kernel_rfl) (fun _ _ _ h => h) (Or.inl ⟨by rfl, ?_⟩) ?_ ?_
 rotate_left
 ·intro w'
  go_simp
  with_reducible rfl
 rotate_left
 ·simp only [Act.put, List.setIfInBounds_toArray, List.set_cons_zero, List.set_cons_succ, i64_w, i32_w]
  rfl
 refine take_ (i := 3) (N := some 50) (v := ?_) (a' := ?_) #[true, true, true, true, true, false, false, true, true, true, false, true, false, false, false, false, false] rfl rfl (by kernel_rfl) (fun _ _ _ h => h) (Or.inl ⟨by rfl, ?_⟩) hHeld ?_ ?_
 rotate_left
 ·rintro w' ⟨s0, s1, s2, s3⟩
  go_simp
  with_reducible rfl
 rotate_left
 ·simp only [Act.put, List.setIfInBounds_toArray, List.set_cons_zero, List.set_cons_succ, i64_w, i32_w]
  rfl
 refine pure_ (i := 5) (N := some 52) (v := ?_) (a' := ?_) #[true, true, true, true, true, true, false, true, true, true, false, true, false, false, false, false, false] rfl rfl (by kernel_rfl) (fun _ _ _ h => h) (Or.inl ⟨by rfl, ?_⟩) ?_ ?_
 rotate_left
 ·intro w'
  go_simp
  with_reducible rfl
 rotate_left
 ·simp only [Act.put, List.setIfInBounds_toArray, List.set_cons_zero, List.set_cons_succ, i64_w, i32_w]
  rfl
 refine take_ (i := 6) (N := some 53) (v := ?_) (a' := ?_) #[true, true, true, true, true, true, true, true, true, true, false, true, false, false, false, false, false] rfl rfl (by kernel_rfl) (fun _ _ _ h => h) (Or.inl ⟨by rfl, ?_⟩) hHeld ?_ ?_
 rotate_left
 ·rintro w' ⟨s0, s1, s2, s3⟩
  go_simp
  with_reducible rfl
 rotate_left
 ·simp only [Act.put, List.setIfInBounds_toArray, List.set_cons_zero, List.set_cons_succ, i64_w, i32_w]
  rfl
 refine take_ (i := 10) (N := some 57) (v := ?_) (a' := ?_) #[true, true, true, true, true, true, true, true, true, true, true, true, false, false, false, false, false] rfl rfl (by kernel_rfl) (fun _ _ _ h => h) (Or.inl ⟨by rfl, ?_⟩) hHeld ?_ ?_
 rotate_left
 ·rintro w' ⟨s0, s1, s2, s3⟩
  go_simp
  with_reducible rfl
 rotate_left
 ·simp only [Act.put, List.setIfInBounds_toArray, List.set_cons_zero, List.set_cons_succ, i64_w, i32_w]
  rfl
 refine pure_ (i := 12) (N := some 59) (v := ?_) (a' := ?_) #[true, true, true, true, true, true, true, true, true, true, true, true, true, false, false, false, false] rfl rfl (by kernel_rfl) (fun _ _ _ h => h) (Or.inl ⟨by rfl, ?_⟩) ?_ ?_
 rotate_left
 ·intro w'
  go_simp
  with_reducible rfl
 rotate_left
 ·simp only [Act.put, List.setIfInBounds_toArray, List.set_cons_zero, List.set_cons_succ, i64_w, i32_w]
  rfl
 refine take_ (i := 13) (N := some 60) (v := ?_) (a' := ?_) #[true, true, true, true, true, true, true, true, true, true, true, true, true, true, false, false, false] rfl rfl (by kernel_rfl) (fun _ _ _ h => h) (Or.inl ⟨by rfl, ?_⟩) hHeld ?_ ?_
 rotate_left
 ·rintro w' ⟨s0, s1, s2, s3⟩
  go_simp
  with_reducible rfl
 rotate_left
 ·simp only [Act.put, List.setIfInBounds_toArray, List.set_cons_zero, List.set_cons_succ, i64_w, i32_w]
  rfl
 refine pure_ (i := 14) (N := some 61) (v := ?_) (a' := ?_) #[true, true, true, true, true, true, true, true, true, true, true, true, true, true, true, false, false] rfl rfl (by kernel_rfl) (fun _ _ _ h => h) (Or.inl ⟨by rfl, ?_⟩) ?_ ?_
 rotate_left
 ·intro w'
  go_simp
  with_reducible rfl
 rotate_left
 ·simp only [Act.put, List.setIfInBounds_toArray, List.set_cons_zero, List.set_cons_succ, i64_w, i32_w]
  rfl
 refine pure_ (i := 15) (N := some 62) (v := ?_) (a' := ?_) #[true, true, true, true, true, true, true, true, true, true, true, true, true, true, true, true, false] rfl rfl (by kernel_rfl) (fun _ _ _ h => h) (Or.inl ⟨by rfl, ?_⟩) ?_ ?_
 rotate_left
 ·intro w'
  go_simp
  with_reducible rfl
 rotate_left
 ·simp only [Act.put, List.setIfInBounds_toArray, List.set_cons_zero, List.set_cons_succ, i64_w, i32_w]
  rfl
 refine last_ (i := 16) (N := none) #[true, true, true, true, true, true, true, true, true, true, true, true, true, true, true, true, true] rfl rfl (by kernel_rfl) (by decide) (fun K hK => ?_)
 obtain ⟨h3, h4, h5, h6⟩ := hHeld
 refine skip_ (w1 := ?_) (by rfl) rfl ?_ ?_
 rotate_left
 ·go_simp
  rfl
 refine hK.out _ _ ?_
 clear hK K
 refine done_ (by kernel_rfl) ?_
 have M2 := Aside0.mk (M1.out.setSiz (gt m i) (many m (gt m i) + many m (gt m j))).drew
 clear hwr
 have e3 : (many m (gt m i) : Int) + (many m (gt m j) : Int) = ((many m (gt m i) + many m (gt m j) : Nat) : Int) := by omega
 rw [e3]
 have F2 := Aside0.mk (((HF.out.setCell (p := ⟨bP, gt m j, none⟩) (.inr (.inl rfl)) (.int .i64 ((gt m i : Nat) : Int)))).setCell (p := ⟨bS, gt m i, none⟩) (.inr (.inr rfl)) (.int .i64 ((many m (gt m i) + many m (gt m j) : Nat) : Int))).drew
 generalize (((w3.setCell ⟨bP, gt m j, none⟩ (.int .i64 ((gt m i : Nat) : Int)))).setCell ⟨bS, gt m i, none⟩ (.int .i64 ((many m (gt m i) + many m (gt m j) : Nat) : Int))).drew = w5 at M2 F2 ⊢
 clear e3
 have h9 := M2.out.cell2
 have h10 := blk_free M2.out.obj 2
 go_wp2
 go_ret
 have hg := HG.out
 have e4 : (sets m : Int) - 1 = ((sets (glue (gt m i) (gt m j) m) : Nat) : Int) := by omega
 have M3 := M2.out.setCount (sets (glue (gt m i) (gt m j) m))
 rw [← e4] at M3
 refine ⟨rfl, ⟨_, _, ⟨?_, M3.par, M3.siz, M3.ne1, M3.ne2, M3.ne3, ?_, H2.out.rep.glue hhi hlt HL.out HH.out, ?_⟩⟩, ?_⟩
 ·rw [glue_length]; exact M3.obj
 ·rw [glue_length]; exact hsm
 ·have := H2.out.sized.glue hhi hlt HL.out HH.out
  rwa [H2.out.sized.size _ hlo HL.out, H2.out.sized.size _ hhi HH.out] at this
 ·exact F2.out.setCell (p := ⟨p, 2, none⟩) (.inl rfl) _
set_option maxHeartbeats 1000000 in
set_option maxRecDepth 100000 in
theorem join_gt (p bP bS : Nat) (m P S : List Nat) (i j : Nat) (w : World) (h : AtPS w p bP bS m P S) (hi : i < m.length) (hj : j < m.length) (hlt : gt m j < gt m i) :
  Calls Try.prog 73 #[.pointer (some ⟨p, 0, none⟩), .int .i64 (i : Int), .int .i64 (j : Int)] w fun e w' => e = .returned (.bool true) ∧ Now p bP bS (glue (gt m j) (gt m i) m) w w' := by
 have H := Aside0.mk h
 have Q1 := Aside0.mk (fun W => has_keep (p := p) (bP := bP) (bS := bS) (P := P) (S := S) (ok_of hi) W)
 have Q2 := Aside0.mk (fun W => has_keep (p := p) (bP := bP) (bS := bS) (P := P) (S := S) (ok_of hj) W)
 have ht : ((gt m i : Int) == (gt m j : Int)) = false := by simp only [beq_eq_false_iff_ne]; omega
 have HL := Aside0.mk (h.rep.mm hj)
 have HH := Aside0.mk (h.rep.mm hi)
 have hlo : gt m j < m.length := by have := h.rep.ml hj; omega
 have hhi : gt m i < m.length := by have := h.rep.ml hi; omega
 have hsm := h.small
 clear h
 go_enter Try.func73, Try.ntmps73
 go_wp2_with (go_at_call 80; (first | (with_reducible refine (Q1.out _ H.out).mono ?_) | (with_reducible refine (Q2.out _ H.out).mono ?_)); rintro e w' ⟨rfl, rfl⟩)
 refine start_ (n := 14) (S := fun w' => w'.cell? ⟨p, 0, none⟩ = some (.slice (some ⟨bP, 0, none⟩) m.length m.length) ∧ Aside0 (At w' p bP bS m) ∧ Aside0 (Frame (Own p bP bS) w w')) (ds := []) #[false, false, false, false, false, false, false, false, false, false, false, false, false, false] (by kernel_rfl) rfl rfl ⟨H.out.drew.cell0, ⟨⟨P, S, H.out.drew⟩⟩, ⟨(Frame.refl _ _).drew⟩⟩ (fun hHeld => ?_)
 refine pure_ (i := 0) (N := some 19) (v := ?_) (a' := ?_) #[true, false, false, false, false, false, false, false, false, false, false, false, false, false] rfl rfl (by kernel_rfl) (fun _ _ _ h => h) (Or.inl ⟨by rfl, ?_⟩) ?_ ?_
 rotate_left
 ·intro w'
  go_simp
  with_reducible rfl
 rotate_left
 ·simp only [Act.put, List.setIfInBounds_toArray, List.set_cons_zero, List.set_cons_succ, i64_w, i32_w]
  rfl
 refine pure_ (i := 1) (N := some 20) (v := ?_) (a' := ?_) #[true, true, false, false, false, false, false, false, false, false, false, false, false, false] rfl rfl (by kernel_rfl) (fun _ _ _ h => h) (Or.inl ⟨by rfl, ?_⟩) ?_ ?_
 rotate_left
 ·intro w'
  go_simp
  with_reducible rfl
 rotate_left
 ·simp only [Act.put, List.setIfInBounds_toArray, List.set_cons_zero, List.set_cons_succ, i64_w, i32_w]
  rfl
 refine pure_ (i := 2) (N := some 21) (v := ?_) (a' := ?_) #[true, true, true, false, false, false, false, false, false, false, false, false, false, false] rfl rfl (by kernel_rfl) (fun _ _ _ h => h) (Or.inl ⟨by rfl, ?_⟩) ?_ ?_
 rotate_left
 ·intro w'
  go_simp
  with_reducible rfl
 rotate_left
 ·simp only [Act.put, List.setIfInBounds_toArray, List.set_cons_zero, List.set_cons_succ, i64_w, i32_w]
  rfl
 refine pure_ (i := 4) (N := some 23) (v := ?_) (a' := ?_) #[true, true, true, false, true, false, false, false, false, false, false, false, false, false] rfl rfl (by kernel_rfl) (fun _ _ _ h => h) (Or.inl ⟨by rfl, ?_⟩) ?_ ?_
 rotate_left
 ·intro w'
  go_simp
  with_reducible rfl
 rotate_left
 ·simp only [Act.put, List.setIfInBounds_toArray, List.set_cons_zero, List.set_cons_succ, i64_w, i32_w]
  rfl
 refine pure_ (i := 6) (N := some 25) (v := ?_) (a' := ?_) #[true, true, true, false, true, false, true, false, false, false, false, false, false, false] rfl rfl (by kernel_rfl) (fun _ _ _ h => h) (Or.inl ⟨by rfl, ?_⟩) ?_ ?_
 rotate_left
 ·intro w'
  go_simp
  with_reducible rfl
 rotate_left
 ·simp only [Act.put, List.setIfInBounds_toArray, List.set_cons_zero, List.set_cons_succ, i64_w, i32_w]
  rfl
 refine pure_ (i := 7) (N := some 26) (v := ?_) (a' := ?_) #[true, true, true, false, true, false, true, true, false, false, false, false, false, false] rfl rfl (by kernel_rfl) (fun _ _ _ h => h) (Or.inl ⟨by rfl, ?_⟩) ?_ ?_
 rotate_left
 ·intro w'
  go_simp
  with_reducible rfl
 rotate_left
 ·simp only [Act.put, List.setIfInBounds_toArray, List.set_cons_zero, List.set_cons_succ, i64_w, i32_w]
  rfl
 refine pure_ (i := 8) (N := some 27) (v := ?_) (a' := ?_) #[true, true, true, false, true, false, true, true, true, false, false, false, false, false] rfl rfl (by kernel_rfl) (fun _ _ _ h => h) (Or.inl ⟨by rfl, ?_⟩) ?_ ?_
 rotate_left
 ·intro w'
  go_simp
  with_reducible rfl
 rotate_left
 ·simp only [Act.put, List.setIfInBounds_toArray, List.set_cons_zero, List.set_cons_succ, i64_w, i32_w]
  rfl
 refine pure_ (i := 10) (N := some 29) (v := ?_) (a' := ?_) #[true, true, true, false, true, false, true, true, true, false, true, false, false, false] rfl rfl (by kernel_rfl) (fun _ _ _ h => h) (Or.inl ⟨by rfl, ?_⟩) ?_ ?_
 rotate_left
 ·intro w'
  go_simp
  with_reducible rfl
 rotate_left
 ·simp only [Act.put, List.setIfInBounds_toArray, List.set_cons_zero, List.set_cons_succ, i64_w, i32_w]
  rfl
 refine take_ (i := 3) (N := some 22) (v := ?_) (a' := ?_) #[true, true, true, true, true, false, true, true, true, false, true, false, false, false] rfl rfl (by kernel_rfl) (fun _ _ _ h => h) (Or.inl ⟨by rfl, ?_⟩) hHeld ?_ ?_
 rotate_left
 ·rintro w' ⟨s0, s1, s2⟩
  go_simp
  with_reducible rfl
 rotate_left
 ·simp only [Act.put, List.setIfInBounds_toArray, List.set_cons_zero, List.set_cons_succ, i64_w, i32_w]
  rfl
 refine take_ (i := 9) (N := some 28) (v := ?_) (a' := ?_) #[true, true, true, true, true, false, true, true, true, true, true, false, false, false] rfl rfl (by kernel_rfl) (fun _ _ _ h => h) (Or.inl ⟨by rfl, ?_⟩) hHeld ?_ ?_
 rotate_left
 ·rintro w' ⟨s0, s1, s2⟩
  go_simp
  with_reducible rfl
 rotate_left
 ·simp only [Act.put, List.setIfInBounds_toArray, List.set_cons_zero, List.set_cons_succ, i64_w, i32_w]
  rfl
 refine one_ (i := 5) (N := some 24) #[true, true, true, true, true, true, true, true, true, true, true, false, false, false] rfl rfl (by kernel_rfl) (by decide) (fun K hK => ?_)
 obtain ⟨h0, HA, HF⟩ := hHeld
 obtain ⟨P1, S1, H1⟩ := HA.out
 refine goes_ Try.func81 (by kernel_rfl) rfl #[.slice (some ⟨bP, 0, none⟩) m.length m.length, .int .i64 (i : Int)] (by rfl) rfl rfl (by simp only [List.map_toArray, List.map_cons, List.map_nil]; rfl) ?_
 with_reducible refine (root_calls bP m.length m.length i _ P1 m _ H1.par H1.rep hi rfl H1.small).mono ?_
 rintro e w3 ⟨rfl, hc⟩
 refine ⟨_, rfl, ?_⟩
 obtain ⟨Q, h1, h2⟩ := H1.climbed hc
 clear hc
 refine hK.out _ _ ⟨h1.cell0, ⟨⟨Q, S1, h1⟩⟩, ⟨HF.out.trans h2⟩⟩ (fun hHeld => ?_)
 clear hK K
 refine norm_ (a' := ?_) ?_ ?_
 rotate_left
 ·show Act.put _ (some 24) _ = _
  simp only [Act.put, List.setIfInBounds_toArray, List.set_cons_zero, List.set_cons_succ, i64_w, i32_w]
  rfl
 refine one_ (i := 11) (N := some 30) #[true, true, true, true, true, true, true, true, true, true, true, true, false, false] rfl rfl (by kernel_rfl) (by decide) (fun K hK => ?_)
 obtain ⟨h0, HA, HF⟩ := hHeld
 obtain ⟨P1, S1, H1⟩ := HA.out
 refine goes_ Try.func81 (by kernel_rfl) rfl #[.slice (some ⟨bP, 0, none⟩) m.length m.length, .int .i64 (j : Int)] (by rfl) rfl rfl (by simp only [List.map_toArray, List.map_cons, List.map_nil]; rfl) ?_
 with_reducible refine (root_calls bP m.length m.length j _ P1 m _ H1.par H1.rep hj rfl H1.small).mono ?_
 rintro e w3 ⟨rfl, hc⟩
 refine ⟨_, rfl, ?_⟩
 obtain ⟨Q, h1, h2⟩ := H1.climbed hc
 clear hc
 refine hK.out _ _ ⟨h1.cell0, ⟨⟨Q, S1, h1⟩⟩, ⟨HF.out.trans h2⟩⟩ (fun hHeld => ?_)
 clear hK K
 refine norm_ (a' := ?_) ?_ ?_
 rotate_left
 ·show Act.put _ (some 30) _ = _
  simp only [Act.put, List.setIfInBounds_toArray, List.set_cons_zero, List.set_cons_succ, i64_w, i32_w]
  rfl
 refine pure_ (i := 12) (N := some 7) (v := ?_) (a' := ?_) #[true, true, true, true, true, true, true, true, true, true, true, true, true, false] rfl rfl (by kernel_rfl) (fun _ _ _ h => h) (Or.inl ⟨by rfl, ?_⟩) ?_ ?_
 rotate_left
 ·intro w'
  go_simp
  with_reducible rfl
 rotate_left
 ·simp only [Act.put, List.setIfInBounds_toArray, List.set_cons_zero, List.set_cons_succ, i64_w, i32_w]
  rfl
 refine pure_ (i := 13) (N := some 8) (v := ?_) (a' := ?_) #[true, true, true, true, true, true, true, true, true, true, true, true, true, true] rfl rfl (by kernel_rfl) (fun _ _ _ h => h) (Or.inl ⟨by rfl, ?_⟩) ?_ ?_
 rotate_left
 ·intro w'
  go_simp
  with_reducible rfl
 rotate_left
 ·simp only [Act.put, List.setIfInBounds_toArray, List.set_cons_zero, List.set_cons_succ, i64_w, i32_w]
  rfl
 refine done_ (by kernel_rfl) ?_
 obtain ⟨h0, HA, HF⟩ := hHeld
 obtain ⟨P1, S1, H1⟩ := HA.out
 have H2 := Aside0.mk H1
 clear H1 HA H Q1 Q2
 have hf := blk_free H2.out.par (gt m i)
 have hol := nv_cell H2.out.par (i := gt m i) (by have := H2.out.rep.len; omega)
 have hpair := many_pair m (r := gt m j) (s := gt m i) (by omega)
 have HG := Aside0.mk (sets_glue H2.out.rep hhi hlt HL.out HH.out)
 have hsets := sets_le m
 go_wp2
 have M1 := Aside0.mk (H2.out.mid.setPar (gt m i) (gt m j))
 have hwr : IntKind.i64.wrap ((many m (gt m j) : Int) + (many m (gt m i) : Int)) = (many m (gt m j) : Int) + (many m (gt m i) : Int) := IntWalk.i64_in _ (by omega)
 refine start_ (n := 17) (S := fun w' => w'.cell? ⟨p, 1, none⟩ = some (.slice (some ⟨bS, 0, none⟩) m.length m.length) ∧ w'.cell? ⟨bS, gt m j, none⟩ = some (.int .i64 ((many m (gt m j) : Nat) : Int)) ∧ w'.cell? ⟨bS, gt m i, none⟩ = some (.int .i64 ((many m (gt m i) : Nat) : Int)) ∧ w'.frozen? ⟨bS, gt m j, none⟩ = false) (ds := [16]) #[false, false, false, false, false, false, false, false, false, false, false, false, false, false, false, false, false] (by kernel_rfl) rfl rfl ⟨M1.out.drew.cell1, by rw [nv_cell M1.out.drew.siz (by have := H2.out.sized.len; omega), H2.out.sized.size _ hlo HL.out], by rw [nv_cell M1.out.drew.siz (by have := H2.out.sized.len; omega), H2.out.sized.size _ hhi HH.out], blk_free M1.out.drew.siz _⟩ (fun hHeld => ?_)
 refine pure_ (i := 0) (N := some 47) (v := ?_) (a' := ?_) #[true, false, false, false, false, false, false, false, false, false, false, false, false, false, false, false, false] rfl rfl (by kernel_rfl) (fun _ _ _ h => h) (Or.inl ⟨by rfl, ?_⟩) ?_ ?_
 rotate_left
 ·intro w'
  go_simp
  with_reducible rfl
 rotate_left
 ·simp only [Act.put, List.setIfInBounds_toArray, List.set_cons_zero, List.set_cons_succ, i64_w, i32_w]
  rfl
 refine pure_ (i := 1) (N := some 48) (v := ?_) (a' := ?_) #[true, true, false, false, false, false, false, false, false, false, false, false, false, false, false, false, false] rfl rfl (by kernel_rfl) (fun _ _ _ h => h) (Or.inl ⟨by rfl, ?_⟩) ?_ ?_
 rotate_left
 ·intro w'
  go_simp
  with_reducible rfl
 rotate_left
 ·simp only [Act.put, List.setIfInBounds_toArray, List.set_cons_zero, List.set_cons_succ, i64_w, i32_w]
  rfl
 refine pure_ (i := 2) (N := some 49) (v := ?_) (a' := ?_) #[true, true, true, false, false, false, false, false, false, false, false, false, false, false, false, false, false] rfl rfl (by kernel_rfl) (fun _ _ _ h => h) (Or.inl ⟨by rfl, ?_⟩) ?_ ?_
 rotate_left
 ·intro w'
  go_simp
  with_reducible rfl
 rotate_left
 ·simp only [Act.put, List.setIfInBounds_toArray, List.set_cons_zero, List.set_cons_succ, i64_w, i32_w]
  rfl
 refine pure_ (i := 4) (N := some 51) (v := ?_) (a' := ?_) #[true, true, true, false, true, false, false, false, false, false, false, false, false, false, false, false, false] rfl rfl (by kernel_rfl) (fun _ _ _ h => h) (Or.inl ⟨by rfl, ?_⟩) ?_ ?_
 rotate_left
 ·intro w'
  go_simp
  with_reducible rfl
 rotate_left
 ·simp only [Act.put, List.setIfInBounds_toArray, List.set_cons_zero, List.set_cons_succ, i64_w, i32_w]
  rfl
 refine pure_ (i := 7) (N := some 54) (v := ?_) (a' := ?_) #[true, true, true, false, true, false, false, true, false, false, false, false, false, false, false, false, false] rfl rfl (by kernel_rfl) (fun _ _ _ h => h) (Or.inl ⟨by rfl, ?_⟩) ?_ ?_
 rotate_left
 ·intro w'
  go_simp
  with_reducible rfl
 rotate_left
 ·simp only [Act.put, List.setIfInBounds_toArray, List.set_cons_zero, List.set_cons_succ, i64_w, i32_w]
  rfl
 refine pure_ (i := 8) (N := some 55) (v := ?_) (a' := ?_) #[true, true, true, false, true, false, false, true, true, false, false, false, false, false, false, false, false] rfl rfl (by kernel_rfl) (fun _ _ _ h => h) (Or.inl ⟨by rfl, ?_⟩) ?_ ?_
 rotate_left
 ·intro w'
  go_simp
  with_reducible rfl
 rotate_left
 ·simp only [Act.put, List.setIfInBounds_toArray, List.set_cons_zero, List.set_cons_succ, i64_w, i32_w]
  rfl
 refine pure_ (i := 9) (N := some 56) (v := ?_) (a' := ?_) #[true, true, true, false, true, false, false, true, true, true, false, false, false, false, false, false, false] rfl rfl (by kernel_rfl) (fun _ _ _ h => h) (Or.inl ⟨by rfl, ?_⟩) ?_ ?_
 rotate_left
 ·intro w'
  go_simp
  with_reducible rfl
 rotate_left
 ·simp only [Act.put, List.setIfInBounds_toArray, List.set_cons_zero, List.set_cons_succ, i64_w, i32_w]
  rfl
 refine pure_ (i := 11) (N := some 58) (v := ?_) (a' := ?_) #[true, true, true, false, true, false, false, true, true, true, false, true, false, false, false, false, false] rfl rfl (by kernel_rfl) (fun _ _ _ h => h) (Or.inl ⟨by rfl, ?_⟩) ?_ ?_
 rotate_left
 ·intro w'
  go_simp
  with_reducible rfl
 rotate_left
 ·simp only [Act.put, List.setIfInBounds_toArray, List.set_cons_zero, List.set_cons_succ, i64_w, i32_w]
  rfl
 refine take_ (i := 3) (N := some 50) (v := ?_) (a' := ?_) #[true, true, true, true, true, false, false, true, true, true, false, true, false, false, false, false, false] rfl rfl (by kernel_rfl) (fun _ _ _ h => h) (Or.inl ⟨by rfl, ?_⟩) hHeld ?_ ?_
 rotate_left
 ·rintro w' ⟨s0, s1, s2, s3⟩
  go_simp
  with_reducible rfl
 rotate_left
 ·simp only [Act.put, List.setIfInBounds_toArray, List.set_cons_zero, List.set_cons_succ, i64_w, i32_w]
  rfl
 refine pure_ (i := 5) (N := some 52) (v := ?_) (a' := ?_) #[true, true, true, true, true, true, false, true, true, true, false, true, false, false, false, false, false] rfl rfl (by kernel_rfl) (fun _ _ _ h => h) (Or.inl ⟨by rfl, ?_⟩) ?_ ?_
 rotate_left
 ·intro w'
  go_simp
  with_reducible rfl
 rotate_left
 ·simp only [Act.put, List.setIfInBounds_toArray, List.set_cons_zero, List.set_cons_succ, i64_w, i32_w]
  rfl
 refine take_ (i := 6) (N := some 53) (v := ?_) (a' := ?_) #[true, true, true, true, true, true, true, true, true, true, false, true, false, false, false, false, false] rfl rfl (by kernel_rfl) (fun _ _ _ h => h) (Or.inl ⟨by rfl, ?_⟩) hHeld ?_ ?_
 rotate_left
 ·rintro w' ⟨s0, s1, s2, s3⟩
  go_simp
  with_reducible rfl
 rotate_left
 ·simp only [Act.put, List.setIfInBounds_toArray, List.set_cons_zero, List.set_cons_succ, i64_w, i32_w]
  rfl
 refine take_ (i := 10) (N := some 57) (v := ?_) (a' := ?_) #[true, true, true, true, true, true, true, true, true, true, true, true, false, false, false, false, false] rfl rfl (by kernel_rfl) (fun _ _ _ h => h) (Or.inl ⟨by rfl, ?_⟩) hHeld ?_ ?_
 rotate_left
 ·rintro w' ⟨s0, s1, s2, s3⟩
  go_simp
  with_reducible rfl
 rotate_left
 ·simp only [Act.put, List.setIfInBounds_toArray, List.set_cons_zero, List.set_cons_succ, i64_w, i32_w]
  rfl
 refine pure_ (i := 12) (N := some 59) (v := ?_) (a' := ?_) #[true, true, true, true, true, true, true, true, true, true, true, true, true, false, false, false, false] rfl rfl (by kernel_rfl) (fun _ _ _ h => h) (Or.inl ⟨by rfl, ?_⟩) ?_ ?_
 rotate_left
 ·intro w'
  go_simp
  with_reducible rfl
 rotate_left
 ·simp only [Act.put, List.setIfInBounds_toArray, List.set_cons_zero, List.set_cons_succ, i64_w, i32_w]
  rfl
 refine take_ (i := 13) (N := some 60) (v := ?_) (a' := ?_) #[true, true, true, true, true, true, true, true, true, true, true, true, true, true, false, false, false] rfl rfl (by kernel_rfl) (fun _ _ _ h => h) (Or.inl ⟨by rfl, ?_⟩) hHeld ?_ ?_
 rotate_left
 ·rintro w' ⟨s0, s1, s2, s3⟩
  go_simp
  with_reducible rfl
 rotate_left
 ·simp only [Act.put, List.setIfInBounds_toArray, List.set_cons_zero, List.set_cons_succ, i64_w, i32_w]
  rfl
 refine pure_ (i := 14) (N := some 61) (v := ?_) (a' := ?_) #[true, true, true, true, true, true, true, true, true, true, true, true, true, true, true, false, false] rfl rfl (by kernel_rfl) (fun _ _ _ h => h) (Or.inl ⟨by rfl, ?_⟩) ?_ ?_
 rotate_left
 ·intro w'
  go_simp
  with_reducible rfl
 rotate_left
 ·simp only [Act.put, List.setIfInBounds_toArray, List.set_cons_zero, List.set_cons_succ, i64_w, i32_w]
  rfl
 refine pure_ (i := 15) (N := some 62) (v := ?_) (a' := ?_) #[true, true, true, true, true, true, true, true, true, true, true, true, true, true, true, true, false] rfl rfl (by kernel_rfl) (fun _ _ _ h => h) (Or.inl ⟨by rfl, ?_⟩) ?_ ?_
 rotate_left
 ·intro w'
  go_simp
  with_reducible rfl
 rotate_left
 ·simp only [Act.put, List.setIfInBounds_toArray, List.set_cons_zero, List.set_cons_succ, i64_w, i32_w]
  rfl
 refine last_ (i := 16) (N := none) #[true, true, true, true, true, true, true, true, true, true, true, true, true, true, true, true, true] rfl rfl (by kernel_rfl) (by decide) (fun K hK => ?_)
 obtain ⟨h3, h4, h5, h6⟩ := hHeld
 refine skip_ (w1 := ?_) (by rfl) rfl ?_ ?_
 rotate_left
 ·go_simp
  rfl
 refine hK.out _ _ ?_
 clear hK K
 refine done_ (by kernel_rfl) ?_
 have M2 := Aside0.mk (M1.out.setSiz (gt m j) (many m (gt m j) + many m (gt m i))).drew
 clear hwr
 have e3 : (many m (gt m j) : Int) + (many m (gt m i) : Int) = ((many m (gt m j) + many m (gt m i) : Nat) : Int) := by omega
 rw [e3]
 have F2 := Aside0.mk (((HF.out.setCell (p := ⟨bP, gt m i, none⟩) (.inr (.inl rfl)) (.int .i64 ((gt m j : Nat) : Int)))).setCell (p := ⟨bS, gt m j, none⟩) (.inr (.inr rfl)) (.int .i64 ((many m (gt m j) + many m (gt m i) : Nat) : Int))).drew
 generalize (((w3.setCell ⟨bP, gt m i, none⟩ (.int .i64 ((gt m j : Nat) : Int)))).setCell ⟨bS, gt m j, none⟩ (.int .i64 ((many m (gt m j) + many m (gt m i) : Nat) : Int))).drew = w5 at M2 F2 ⊢
 clear e3
 have h9 := M2.out.cell2
 have h10 := blk_free M2.out.obj 2
 go_wp2
 go_ret
 have hg := HG.out
 have e4 : (sets m : Int) - 1 = ((sets (glue (gt m j) (gt m i) m) : Nat) : Int) := by omega
 have M3 := M2.out.setCount (sets (glue (gt m j) (gt m i) m))
 rw [← e4] at M3
 refine ⟨rfl, ⟨_, _, ⟨?_, M3.par, M3.siz, M3.ne1, M3.ne2, M3.ne3, ?_, H2.out.rep.glue hhi hlt HL.out HH.out, ?_⟩⟩, ?_⟩
 ·rw [glue_length]; exact M3.obj
 ·rw [glue_length]; exact hsm
 ·have := H2.out.sized.glue hhi hlt HL.out HH.out
  rwa [H2.out.sized.size _ hlo HL.out, H2.out.sized.size _ hhi HH.out] at this
 ·exact F2.out.setCell (p := ⟨p, 2, none⟩) (.inl rfl) _
theorem join_calls (p bP bS : Nat) (m P S : List Nat) (a b : Int) (w : World) (h : AtPS w p bP bS m P S) :
  Calls Try.prog 73 #[.pointer (some ⟨p, 0, none⟩), .int .i64 a, .int .i64 b] w fun e w' => e = .returned (.bool (joinOf m a b).2) ∧ Now p bP bS (joinOf m a b).1 w w' := by
 cases hk : ok m a && ok m b
 ·exact join_no p bP bS m P S a b w h hk
 ·rw [Bool.and_eq_true] at hk
  obtain ⟨i, rfl, hi⟩ := ok_nat hk.1
  obtain ⟨j, rfl, hj⟩ := ok_nat hk.2
  rcases Nat.lt_trichotomy (gt m i) (gt m j) with hlt | heq | hgt
  ·have e : joinOf m i j = (glue (gt m i) (gt m j) m, true) := by
    unfold joinOf
    rw [if_pos (by simp [hk.1, hk.2]; omega)]
    simp only [Int.toNat_natCast]
    rw [Nat.min_eq_left (by omega), Nat.max_eq_right (by omega)]
   rw [e]; exact join_lt p bP bS m P S i j w h hi hj hlt
  ·exact join_same p bP bS m P S i j w h hi hj heq
  ·have e : joinOf m i j = (glue (gt m j) (gt m i) m, true) := by
    unfold joinOf
    rw [if_pos (by simp [hk.1, hk.2]; omega)]
    simp only [Int.toNat_natCast]
    rw [Nat.min_eq_right (by omega), Nat.max_eq_left (by omega)]
   rw [e]; exact join_gt p bP bS m P S i j w h hi hj hgt
end Go.Proofs.Yteeihjpnhjnknaa.Sets
namespace Go.Proofs.Yteeihjpnhjnknaa.Sets
open Go.RowKit Go.Proofs.YteeihjpnhjnknaaW.PrintWords Go.Proofs.YteeihjpnhjnknaaW.PrintLast Go.Proofs.YteeihjpnhjnknaaW.PrintMore
set_option linter.unusedVariables false
set_option linter.unusedSimpArgs false
theorem info_int : (Try.prog.info? 3).map (fun i => (i.zero, i.size, i.bytes)) = some (some (.int .i64 0), 1, 8) := by kernel_rfl
theorem made_nv (n : Nat) : madeCells #[.int .i64 0] n = nv (List.replicate n 0) := by
 apply Array.ext
 ·simp [madeCells, nv]
 ·intro i h1 h2
  simp [madeCells, nv, Nat.mod_one]
theorem heap_last (w : World) (o : Obj) : (w.alloc o).heap[w.heap.size]? = some o := by
 show (w.heap.push o)[w.heap.size]? = _
 simp
theorem heap_old {w : World} {k : Nat} {o : Obj} (h : w.heap[k]? = some o) (o' : Obj) : (w.alloc o').heap[k]? = some o := by
 rw [Below.heap_alloc _ _ _ (blk_lt h)]; exact h
def upTo (k n : Nat) : List Nat := List.range k ++ List.replicate (n - k) 0
def onesTo (k n : Nat) : List Nat := List.replicate k 1 ++ List.replicate (n - k) 0
theorem upTo_zero (n : Nat) : upTo 0 n = List.replicate n 0 := by simp [upTo]
theorem onesTo_zero (n : Nat) : onesTo 0 n = List.replicate n 0 := by simp [onesTo]
theorem upTo_self (n : Nat) : upTo n n = List.range n := by simp [upTo]
theorem onesTo_self (n : Nat) : onesTo n n = List.replicate n 1 := by simp [onesTo]
theorem upTo_length {k n : Nat} (h : k ≤ n) : (upTo k n).length = n := by simp [upTo]; omega
theorem onesTo_length {k n : Nat} (h : k ≤ n) : (onesTo k n).length = n := by simp [onesTo]; omega
theorem set_end {α : Type} (l : List α) (z x : α) (k n : Nat) (hl : l.length = k) (h : k < n) : (l ++ List.replicate (n - k) z).set k x = l ++ [x] ++ List.replicate (n - (k + 1)) z := by
 obtain ⟨d, hd⟩ : ∃ d, n - k = d + 1 := ⟨n - k - 1, by omega⟩
 have hd2 : n - (k + 1) = d := by omega
 rw [hd, hd2, List.replicate_succ, List.set_append_right _ _ (by omega), hl, Nat.sub_self, List.set_cons_zero, List.append_assoc]; rfl
theorem upTo_set {k n : Nat} (h : k < n) : (upTo k n).set k k = upTo (k + 1) n := by
 unfold upTo; rw [set_end _ _ _ _ _ (by simp) h, List.range_succ]
theorem onesTo_set {k n : Nat} (h : k < n) : (onesTo k n).set k 1 = onesTo (k + 1) n := by
 unfold onesTo; rw [set_end _ _ _ _ _ (by simp) h, List.replicate_succ']
theorem new_start (w : World) (n x y : Nat) (hxy : (x = w.heap.size ∧ y = w.heap.size + 1) ∨ (x = w.heap.size + 1 ∧ y = w.heap.size)) :
  MidPS (((w.alloc (.cells (madeCells #[.int .i64 0] n) 3 (0, 0))).alloc (.cells (madeCells #[.int .i64 0] n) 3 (0, 0))).alloc (.cells #[.slice (some ⟨x, 0, none⟩) n n, .slice (some ⟨y, 0, none⟩) n n, .int .i64 (n : Int)] 114 (0, 0))).drew (w.heap.size + 1 + 1) x y n (upTo 0 n) (onesTo 0 n) n ∧
  Below w.heap.size w (((w.alloc (.cells (madeCells #[.int .i64 0] n) 3 (0, 0))).alloc (.cells (madeCells #[.int .i64 0] n) 3 (0, 0))).alloc (.cells #[.slice (some ⟨x, 0, none⟩) n n, .slice (some ⟨y, 0, none⟩) n n, .int .i64 (n : Int)] 114 (0, 0))).drew := by
 rw [upTo_zero, onesTo_zero]
 have e1 := heap_last w (.cells (nv (List.replicate n 0)) 3 (0, 0))
 have e2 := heap_last (w.alloc (.cells (nv (List.replicate n 0)) 3 (0, 0))) (.cells (nv (List.replicate n 0)) 3 (0, 0))
 rw [made_nv]
 have e3 := heap_last ((w.alloc (.cells (nv (List.replicate n 0)) 3 (0, 0))).alloc (.cells (nv (List.replicate n 0)) 3 (0, 0))) (.cells #[.slice (some ⟨x, 0, none⟩) n n, .slice (some ⟨y, 0, none⟩) n n, .int .i64 (n : Int)] 114 (0, 0))
 have s1 : (w.alloc (.cells (nv (List.replicate n 0)) 3 (0, 0))).heap.size = w.heap.size + 1 := by simp
 have s2 : ((w.alloc (.cells (nv (List.replicate n 0)) 3 (0, 0))).alloc (.cells (nv (List.replicate n 0)) 3 (0, 0))).heap.size = w.heap.size + 1 + 1 := by simp
 rw [s1] at e2
 rw [s2] at e3
 refine ⟨⟨e3, ?_, ?_, by omega, by omega, by omega⟩, ?_⟩
 ·rcases hxy with ⟨rfl, rfl⟩ | ⟨rfl, rfl⟩
  ·exact heap_old (heap_old e1 _) _
  ·exact heap_old e2 _
 ·rcases hxy with ⟨rfl, rfl⟩ | ⟨rfl, rfl⟩
  ·exact heap_old e2 _
  ·exact heap_old (heap_old e1 _) _
 ·exact ((((Below.refl _ _).alloc (Nat.le_refl _) _).alloc (by omega) _).alloc (by omega) _).drew
set_option maxHeartbeats 1000000 in
set_option maxRecDepth 100000 in
theorem new_yes (n : Nat) (w : World) (h : n ≤ 1048576) :
  Calls Try.prog 72 #[.int .i64 (n : Int)] w fun e w' => ∃ p bP bS, e = .returned (.tuple #[.pointer (some ⟨p, 0, none⟩), .int .i64 0]) ∧ w.heap.size ≤ p ∧ w.heap.size ≤ bP ∧ w.heap.size ≤ bS ∧ At w' p bP bS (List.range n) ∧ Below w.heap.size w w' := by
 have h0 : ¬ (n : Int) < 0 := by omega
 have h1 : ¬ (n : Int) > 1048576 := by omega
 have hle : (n : Int) ≤ 1048576 := by omega
 have mk1 := print_make (P := Try.prog) 112 3 .i64 8 Try.underlying112 info_int (by decide) n (by omega)
 have mk2 := print_make (P := Try.prog) 32 3 .i64 8 Try.underlying32 info_int (by decide) n (by omega)
 go_enter Try.func72, Try.ntmps72
 go_wp2
 go_region
 ·obtain ⟨M0, F0⟩ := new_start w n (w.heap.size) (w.heap.size + 1) (.inl ⟨rfl, rfl⟩)
  generalize (((w.alloc (.cells (madeCells #[.int .i64 0] n) 3 (0, 0))).alloc (.cells (madeCells #[.int .i64 0] n) 3 (0, 0))).alloc (.cells #[.slice (some ⟨w.heap.size, 0, none⟩) n n, .slice (some ⟨w.heap.size + 1, 0, none⟩) n n, .int .i64 (n : Int)] 114 (0, 0))).drew = w1 at M0 F0 ⊢
  have M := Aside0.mk M0
  have F := Aside0.mk F0
  clear M0 F0 mk1 mk2
  go_wp2
  go_loopw [20] (fun v wr => ∃ i : Nat, v = .int .i64 (i : Int) ∧ i ≤ n ∧ Aside0 (MidPS wr (w.heap.size + 1 + 1) (w.heap.size) (w.heap.size + 1) n (upTo i n) (onesTo i n) n) ∧ Aside0 (Below w.heap.size w wr)) (fun v _ => n - (intOf v).toNat)
  case atStart => exact ⟨0, rfl, by omega, M, F⟩
  case round =>
   clear M F
   obtain ⟨i, rfl, hi, M, F⟩ := hrel
   by_cases hlt : i < n
   ·have hlen := upTo_length hi
    have hlen2 := onesTo_length hi
    have M1 := Aside0.mk (M.out.setPar i i)
    have c1 := nv_cell M.out.par (i := i) (by omega)
    have f1 := blk_free M.out.par i
    have c2 := nv_cell M1.out.siz (i := i) (by omega)
    have f2 := blk_free M1.out.siz i
    have HL := Aside0.mk hlen
    have HL2 := Aside0.mk hlen2
    clear hlen hlen2
    go_wp2
    refine start_ (n := 15) (S := fun w' => w'.cell? ⟨w.heap.size + 1 + 1, 0, none⟩ = some (.slice (some ⟨w.heap.size, 0, none⟩) n n) ∧ w'.cell? ⟨w.heap.size + 1 + 1, 1, none⟩ = some (.slice (some ⟨w.heap.size + 1, 0, none⟩) n n)) (ds := [12, 14]) #[false, false, false, false, false, false, false, false, false, false, false, false, false, false, false] (by kernel_rfl) rfl rfl ⟨M.out.drew.cell0, M.out.drew.cell1⟩ (fun hHeld => ?_)
    refine pure_ (i := 0) (N := some 23) (v := ?_) (a' := ?_) #[true, false, false, false, false, false, false, false, false, false, false, false, false, false, false] rfl rfl (by kernel_rfl) (fun _ _ _ h => h) (Or.inl ⟨by rfl, ?_⟩) ?_ ?_
    rotate_left
    ·intro w'
     go_simp
     with_reducible rfl
    rotate_left
    ·simp only [Act.put, List.setIfInBounds_toArray, List.set_cons_zero, List.set_cons_succ, i64_w, i32_w]
     rfl
    refine pure_ (i := 1) (N := some 24) (v := ?_) (a' := ?_) #[true, true, false, false, false, false, false, false, false, false, false, false, false, false, false] rfl rfl (by kernel_rfl) (fun _ _ _ h => h) (Or.inl ⟨by rfl, ?_⟩) ?_ ?_
    rotate_left
    ·intro w'
     go_simp
     with_reducible rfl
    rotate_left
    ·simp only [Act.put, List.setIfInBounds_toArray, List.set_cons_zero, List.set_cons_succ, i64_w, i32_w]
     rfl
    refine pure_ (i := 2) (N := some 25) (v := ?_) (a' := ?_) #[true, true, true, false, false, false, false, false, false, false, false, false, false, false, false] rfl rfl (by kernel_rfl) (fun _ _ _ h => h) (Or.inl ⟨by rfl, ?_⟩) ?_ ?_
    rotate_left
    ·intro w'
     go_simp
     with_reducible rfl
    rotate_left
    ·simp only [Act.put, List.setIfInBounds_toArray, List.set_cons_zero, List.set_cons_succ, i64_w, i32_w]
     rfl
    refine pure_ (i := 4) (N := some 27) (v := ?_) (a' := ?_) #[true, true, true, false, true, false, false, false, false, false, false, false, false, false, false] rfl rfl (by kernel_rfl) (fun _ _ _ h => h) (Or.inl ⟨by rfl, ?_⟩) ?_ ?_
    rotate_left
    ·intro w'
     go_simp
     with_reducible rfl
    rotate_left
    ·simp only [Act.put, List.setIfInBounds_toArray, List.set_cons_zero, List.set_cons_succ, i64_w, i32_w]
     rfl
    refine pure_ (i := 5) (N := some 28) (v := ?_) (a' := ?_) #[true, true, true, false, true, true, false, false, false, false, false, false, false, false, false] rfl rfl (by kernel_rfl) (fun _ _ _ h => h) (Or.inl ⟨by rfl, ?_⟩) ?_ ?_
    rotate_left
    ·intro w'
     go_simp
     with_reducible rfl
    rotate_left
    ·simp only [Act.put, List.setIfInBounds_toArray, List.set_cons_zero, List.set_cons_succ, i64_w, i32_w]
     rfl
    refine pure_ (i := 6) (N := some 29) (v := ?_) (a' := ?_) #[true, true, true, false, true, true, true, false, false, false, false, false, false, false, false] rfl rfl (by kernel_rfl) (fun _ _ _ h => h) (Or.inl ⟨by rfl, ?_⟩) ?_ ?_
    rotate_left
    ·intro w'
     go_simp
     with_reducible rfl
    rotate_left
    ·simp only [Act.put, List.setIfInBounds_toArray, List.set_cons_zero, List.set_cons_succ, i64_w, i32_w]
     rfl
    refine pure_ (i := 7) (N := some 30) (v := ?_) (a' := ?_) #[true, true, true, false, true, true, true, true, false, false, false, false, false, false, false] rfl rfl (by kernel_rfl) (fun _ _ _ h => h) (Or.inl ⟨by rfl, ?_⟩) ?_ ?_
    rotate_left
    ·intro w'
     go_simp
     with_reducible rfl
    rotate_left
    ·simp only [Act.put, List.setIfInBounds_toArray, List.set_cons_zero, List.set_cons_succ, i64_w, i32_w]
     rfl
    refine pure_ (i := 9) (N := some 32) (v := ?_) (a' := ?_) #[true, true, true, false, true, true, true, true, false, true, false, false, false, false, false] rfl rfl (by kernel_rfl) (fun _ _ _ h => h) (Or.inl ⟨by rfl, ?_⟩) ?_ ?_
    rotate_left
    ·intro w'
     go_simp
     with_reducible rfl
    rotate_left
    ·simp only [Act.put, List.setIfInBounds_toArray, List.set_cons_zero, List.set_cons_succ, i64_w, i32_w]
     rfl
    refine pure_ (i := 10) (N := some 33) (v := ?_) (a' := ?_) #[true, true, true, false, true, true, true, true, false, true, true, false, false, false, false] rfl rfl (by kernel_rfl) (fun _ _ _ h => h) (Or.inl ⟨by rfl, ?_⟩) ?_ ?_
    rotate_left
    ·intro w'
     go_simp
     with_reducible rfl
    rotate_left
    ·simp only [Act.put, List.setIfInBounds_toArray, List.set_cons_zero, List.set_cons_succ, i64_w, i32_w]
     rfl
    refine take_ (i := 3) (N := some 26) (v := ?_) (a' := ?_) #[true, true, true, true, true, true, true, true, false, true, true, false, false, false, false] rfl rfl (by kernel_rfl) (fun _ _ _ h => h) (Or.inl ⟨by rfl, ?_⟩) hHeld ?_ ?_
    rotate_left
    ·rintro w' ⟨s0, s1⟩
     go_simp
     with_reducible rfl
    rotate_left
    ·simp only [Act.put, List.setIfInBounds_toArray, List.set_cons_zero, List.set_cons_succ, i64_w, i32_w]
     rfl
    refine take_ (i := 8) (N := some 31) (v := ?_) (a' := ?_) #[true, true, true, true, true, true, true, true, true, true, true, false, false, false, false] rfl rfl (by kernel_rfl) (fun _ _ _ h => h) (Or.inl ⟨by rfl, ?_⟩) hHeld ?_ ?_
    rotate_left
    ·rintro w' ⟨s0, s1⟩
     go_simp
     with_reducible rfl
    rotate_left
    ·simp only [Act.put, List.setIfInBounds_toArray, List.set_cons_zero, List.set_cons_succ, i64_w, i32_w]
     rfl
    refine pure_ (i := 11) (N := some 34) (v := ?_) (a' := ?_) #[true, true, true, true, true, true, true, true, true, true, true, true, false, false, false] rfl rfl (by kernel_rfl) (fun _ _ _ h => h) (Or.inl ⟨by rfl, ?_⟩) ?_ ?_
    rotate_left
    ·intro w'
     go_simp
     with_reducible rfl
    rotate_left
    ·simp only [Act.put, List.setIfInBounds_toArray, List.set_cons_zero, List.set_cons_succ, i64_w, i32_w]
     rfl
    refine last_ (i := 12) (N := none) #[true, true, true, true, true, true, true, true, true, true, true, true, true, false, false] rfl rfl (by kernel_rfl) (by decide) (fun K hK => ?_)
    refine skip_ (w1 := ?_) (by rfl) rfl ?_ ?_
    rotate_left
    ·go_simp
     rfl
    refine hK.out _ _ ?_
    clear hK K
    refine pure_ (i := 13) (N := some 35) (v := ?_) (a' := ?_) #[true, true, true, true, true, true, true, true, true, true, true, true, true, true, false] rfl rfl (by kernel_rfl) (fun _ _ _ h => h) (Or.inl ⟨by rfl, ?_⟩) ?_ ?_
    rotate_left
    ·intro w'
     go_simp
     with_reducible rfl
    rotate_left
    ·simp only [Act.put, List.setIfInBounds_toArray, List.set_cons_zero, List.set_cons_succ, i64_w, i32_w]
     rfl
    refine last_ (i := 14) (N := none) #[true, true, true, true, true, true, true, true, true, true, true, true, true, true, true] rfl rfl (by kernel_rfl) (by decide) (fun K hK => ?_)
    refine skip_ (w1 := ?_) (by rfl) rfl ?_ ?_
    rotate_left
    ·go_simp
     rfl
    refine hK.out _ _ ?_
    clear hK K
    refine done_ (by kernel_rfl) ?_
    go_wp2
    go_roundw
    case rel =>
     refine ⟨i + 1, by go_num, by omega, ⟨?_⟩, ⟨((F.out.setCell (p := ⟨w.heap.size, i, none⟩) (by simp) _).setCell (p := ⟨w.heap.size + 1, i, none⟩) (by simp) _).drew⟩⟩
     have h2 := (M1.out.setSiz i 1).drew
     rw [upTo_set hlt, onesTo_set hlt] at h2
     exact h2
    case measure => simp [intOf]; omega
   ·obtain rfl : i = n := by omega
    go_wp2
    go_ret2
    have h2 := M.out
    rw [upTo_self, onesTo_self] at h2
    refine ⟨_, _, _, rfl, by omega, ?_, ?_, ⟨List.range i, List.replicate i 1, ⟨?_, h2.par, h2.siz, h2.ne1, h2.ne2, h2.ne3, ?_, Rep.range i, Sized.ones i⟩⟩, F.out⟩
    ·exact Nat.le_refl _
    ·omega
    ·rw [List.length_range, sets_range]; exact h2.obj
    ·rw [List.length_range]; exact h
 ·obtain ⟨M0, F0⟩ := new_start w n (w.heap.size + 1) (w.heap.size) (.inr ⟨rfl, rfl⟩)
  generalize (((w.alloc (.cells (madeCells #[.int .i64 0] n) 3 (0, 0))).alloc (.cells (madeCells #[.int .i64 0] n) 3 (0, 0))).alloc (.cells #[.slice (some ⟨w.heap.size + 1, 0, none⟩) n n, .slice (some ⟨w.heap.size, 0, none⟩) n n, .int .i64 (n : Int)] 114 (0, 0))).drew = w1 at M0 F0 ⊢
  have M := Aside0.mk M0
  have F := Aside0.mk F0
  clear M0 F0 mk1 mk2
  go_wp2
  go_loopw [20] (fun v wr => ∃ i : Nat, v = .int .i64 (i : Int) ∧ i ≤ n ∧ Aside0 (MidPS wr (w.heap.size + 1 + 1) (w.heap.size + 1) (w.heap.size) n (upTo i n) (onesTo i n) n) ∧ Aside0 (Below w.heap.size w wr)) (fun v _ => n - (intOf v).toNat)
  case atStart => exact ⟨0, rfl, by omega, M, F⟩
  case round =>
   clear M F
   obtain ⟨i, rfl, hi, M, F⟩ := hrel
   by_cases hlt : i < n
   ·have hlen := upTo_length hi
    have hlen2 := onesTo_length hi
    have M1 := Aside0.mk (M.out.setPar i i)
    have c1 := nv_cell M.out.par (i := i) (by omega)
    have f1 := blk_free M.out.par i
    have c2 := nv_cell M1.out.siz (i := i) (by omega)
    have f2 := blk_free M1.out.siz i
    have HL := Aside0.mk hlen
    have HL2 := Aside0.mk hlen2
    clear hlen hlen2
    go_wp2
    refine start_ (n := 15) (S := fun w' => w'.cell? ⟨w.heap.size + 1 + 1, 0, none⟩ = some (.slice (some ⟨w.heap.size + 1, 0, none⟩) n n) ∧ w'.cell? ⟨w.heap.size + 1 + 1, 1, none⟩ = some (.slice (some ⟨w.heap.size, 0, none⟩) n n)) (ds := [12, 14]) #[false, false, false, false, false, false, false, false, false, false, false, false, false, false, false] (by kernel_rfl) rfl rfl ⟨M.out.drew.cell0, M.out.drew.cell1⟩ (fun hHeld => ?_)
    refine pure_ (i := 0) (N := some 23) (v := ?_) (a' := ?_) #[true, false, false, false, false, false, false, false, false, false, false, false, false, false, false] rfl rfl (by kernel_rfl) (fun _ _ _ h => h) (Or.inl ⟨by rfl, ?_⟩) ?_ ?_
    rotate_left
    ·intro w'
     go_simp
     with_reducible rfl
    rotate_left
    ·simp only [Act.put, List.setIfInBounds_toArray, List.set_cons_zero, List.set_cons_succ, i64_w, i32_w]
     rfl
    refine pure_ (i := 1) (N := some 24) (v := ?_) (a' := ?_) #[true, true, false, false, false, false, false, false, false, false, false, false, false, false, false] rfl rfl (by kernel_rfl) (fun _ _ _ h => h) (Or.inl ⟨by rfl, ?_⟩) ?_ ?_
    rotate_left
    ·intro w'
     go_simp
     with_reducible rfl
    rotate_left
    ·simp only [Act.put, List.setIfInBounds_toArray, List.set_cons_zero, List.set_cons_succ, i64_w, i32_w]
     rfl
    refine pure_ (i := 2) (N := some 25) (v := ?_) (a' := ?_) #[true, true, true, false, false, false, false, false, false, false, false, false, false, false, false] rfl rfl (by kernel_rfl) (fun _ _ _ h => h) (Or.inl ⟨by rfl, ?_⟩) ?_ ?_
    rotate_left
    ·intro w'
     go_simp
     with_reducible rfl
    rotate_left
    ·simp only [Act.put, List.setIfInBounds_toArray, List.set_cons_zero, List.set_cons_succ, i64_w, i32_w]
     rfl
    refine pure_ (i := 4) (N := some 27) (v := ?_) (a' := ?_) #[true, true, true, false, true, false, false, false, false, false, false, false, false, false, false] rfl rfl (by kernel_rfl) (fun _ _ _ h => h) (Or.inl ⟨by rfl, ?_⟩) ?_ ?_
    rotate_left
    ·intro w'
     go_simp
     with_reducible rfl
    rotate_left
    ·simp only [Act.put, List.setIfInBounds_toArray, List.set_cons_zero, List.set_cons_succ, i64_w, i32_w]
     rfl
    refine pure_ (i := 5) (N := some 28) (v := ?_) (a' := ?_) #[true, true, true, false, true, true, false, false, false, false, false, false, false, false, false] rfl rfl (by kernel_rfl) (fun _ _ _ h => h) (Or.inl ⟨by rfl, ?_⟩) ?_ ?_
    rotate_left
    ·intro w'
     go_simp
     with_reducible rfl
    rotate_left
    ·simp only [Act.put, List.setIfInBounds_toArray, List.set_cons_zero, List.set_cons_succ, i64_w, i32_w]
     rfl
    refine pure_ (i := 6) (N := some 29) (v := ?_) (a' := ?_) #[true, true, true, false, true, true, true, false, false, false, false, false, false, false, false] rfl rfl (by kernel_rfl) (fun _ _ _ h => h) (Or.inl ⟨by rfl, ?_⟩) ?_ ?_
    rotate_left
    ·intro w'
     go_simp
     with_reducible rfl
    rotate_left
    ·simp only [Act.put, List.setIfInBounds_toArray, List.set_cons_zero, List.set_cons_succ, i64_w, i32_w]
     rfl
    refine pure_ (i := 7) (N := some 30) (v := ?_) (a' := ?_) #[true, true, true, false, true, true, true, true, false, false, false, false, false, false, false] rfl rfl (by kernel_rfl) (fun _ _ _ h => h) (Or.inl ⟨by rfl, ?_⟩) ?_ ?_
    rotate_left
    ·intro w'
     go_simp
     with_reducible rfl
    rotate_left
    ·simp only [Act.put, List.setIfInBounds_toArray, List.set_cons_zero, List.set_cons_succ, i64_w, i32_w]
     rfl
    refine pure_ (i := 9) (N := some 32) (v := ?_) (a' := ?_) #[true, true, true, false, true, true, true, true, false, true, false, false, false, false, false] rfl rfl (by kernel_rfl) (fun _ _ _ h => h) (Or.inl ⟨by rfl, ?_⟩) ?_ ?_
    rotate_left
    ·intro w'
     go_simp
     with_reducible rfl
    rotate_left
    ·simp only [Act.put, List.setIfInBounds_toArray, List.set_cons_zero, List.set_cons_succ, i64_w, i32_w]
     rfl
    refine pure_ (i := 10) (N := some 33) (v := ?_) (a' := ?_) #[true, true, true, false, true, true, true, true, false, true, true, false, false, false, false] rfl rfl (by kernel_rfl) (fun _ _ _ h => h) (Or.inl ⟨by rfl, ?_⟩) ?_ ?_
    rotate_left
    ·intro w'
     go_simp
     with_reducible rfl
    rotate_left
    ·simp only [Act.put, List.setIfInBounds_toArray, List.set_cons_zero, List.set_cons_succ, i64_w, i32_w]
     rfl
    refine take_ (i := 3) (N := some 26) (v := ?_) (a' := ?_) #[true, true, true, true, true, true, true, true, false, true, true, false, false, false, false] rfl rfl (by kernel_rfl) (fun _ _ _ h => h) (Or.inl ⟨by rfl, ?_⟩) hHeld ?_ ?_
    rotate_left
    ·rintro w' ⟨s0, s1⟩
     go_simp
     with_reducible rfl
    rotate_left
    ·simp only [Act.put, List.setIfInBounds_toArray, List.set_cons_zero, List.set_cons_succ, i64_w, i32_w]
     rfl
    refine take_ (i := 8) (N := some 31) (v := ?_) (a' := ?_) #[true, true, true, true, true, true, true, true, true, true, true, false, false, false, false] rfl rfl (by kernel_rfl) (fun _ _ _ h => h) (Or.inl ⟨by rfl, ?_⟩) hHeld ?_ ?_
    rotate_left
    ·rintro w' ⟨s0, s1⟩
     go_simp
     with_reducible rfl
    rotate_left
    ·simp only [Act.put, List.setIfInBounds_toArray, List.set_cons_zero, List.set_cons_succ, i64_w, i32_w]
     rfl
    refine pure_ (i := 11) (N := some 34) (v := ?_) (a' := ?_) #[true, true, true, true, true, true, true, true, true, true, true, true, false, false, false] rfl rfl (by kernel_rfl) (fun _ _ _ h => h) (Or.inl ⟨by rfl, ?_⟩) ?_ ?_
    rotate_left
    ·intro w'
     go_simp
     with_reducible rfl
    rotate_left
    ·simp only [Act.put, List.setIfInBounds_toArray, List.set_cons_zero, List.set_cons_succ, i64_w, i32_w]
     rfl
    refine last_ (i := 12) (N := none) #[true, true, true, true, true, true, true, true, true, true, true, true, true, false, false] rfl rfl (by kernel_rfl) (by decide) (fun K hK => ?_)
    refine skip_ (w1 := ?_) (by rfl) rfl ?_ ?_
    rotate_left
    ·go_simp
     rfl
    refine hK.out _ _ ?_
    clear hK K
    refine pure_ (i := 13) (N := some 35) (v := ?_) (a' := ?_) #[true, true, true, true, true, true, true, true, true, true, true, true, true, true, false] rfl rfl (by kernel_rfl) (fun _ _ _ h => h) (Or.inl ⟨by rfl, ?_⟩) ?_ ?_
    rotate_left
    ·intro w'
     go_simp
     with_reducible rfl
    rotate_left
    ·simp only [Act.put, List.setIfInBounds_toArray, List.set_cons_zero, List.set_cons_succ, i64_w, i32_w]
     rfl
    refine last_ (i := 14) (N := none) #[true, true, true, true, true, true, true, true, true, true, true, true, true, true, true] rfl rfl (by kernel_rfl) (by decide) (fun K hK => ?_)
    refine skip_ (w1 := ?_) (by rfl) rfl ?_ ?_
    rotate_left
    ·go_simp
     rfl
    refine hK.out _ _ ?_
    clear hK K
    refine done_ (by kernel_rfl) ?_
    go_wp2
    go_roundw
    case rel =>
     refine ⟨i + 1, by go_num, by omega, ⟨?_⟩, ⟨((F.out.setCell (p := ⟨w.heap.size + 1, i, none⟩) (by simp) _).setCell (p := ⟨w.heap.size, i, none⟩) (by simp) _).drew⟩⟩
     have h2 := (M1.out.setSiz i 1).drew
     rw [upTo_set hlt, onesTo_set hlt] at h2
     exact h2
    case measure => simp [intOf]; omega
   ·obtain rfl : i = n := by omega
    go_wp2
    go_ret2
    have h2 := M.out
    rw [upTo_self, onesTo_self] at h2
    refine ⟨_, _, _, rfl, by omega, ?_, ?_, ⟨List.range i, List.replicate i 1, ⟨?_, h2.par, h2.siz, h2.ne1, h2.ne2, h2.ne3, ?_, Rep.range i, Sized.ones i⟩⟩, F.out⟩
    ·omega
    ·exact Nat.le_refl _
    ·rw [List.length_range, sets_range]; exact h2.obj
    ·rw [List.length_range]; exact h
end Go.Proofs.Yteeihjpnhjnknaa.Sets
namespace Go.Proofs.Yteeihjpnhjnknaa.Sets
open Go.RowKit Go.Proofs.YteeihjpnhjnknaaW.PrintWords Go.Proofs.YteeihjpnhjnknaaW.PrintLast Go.Proofs.YteeihjpnhjnknaaW.PrintMore
set_option linter.unusedVariables false
set_option linter.unusedSimpArgs false
def numTo (m : List Nat) : Nat → List Nat × Nat
 | 0 => ([], 0)
 | k + 1 => if gt m k < k then ((numTo m k).1 ++ [gt (numTo m k).1 (gt m k)], (numTo m k).2) else ((numTo m k).1 ++ [(numTo m k).2], (numTo m k).2 + 1)
theorem numTo_length (m : List Nat) (k : Nat) : (numTo m k).1.length = k := by
 induction k with
 | zero => rfl
 | succ k ih => unfold numTo; split <;> simp [ih]
theorem numTo_le (m : List Nat) (k : Nat) : (numTo m k).2 ≤ k := by
 induction k with
 | zero => simp [numTo]
 | succ k ih => unfold numTo; split <;> simp <;> omega
def numRow (m : List Nat) (n k : Nat) : List Nat := (numTo m k).1 ++ List.replicate (n - k) 0
theorem numRow_length (m : List Nat) {n k : Nat} (h : k ≤ n) : (numRow m n k).length = n := by simp [numRow, numTo_length]; omega
theorem numRow_zero (m : List Nat) (n : Nat) : numRow m n 0 = List.replicate n 0 := by simp [numRow, numTo]
theorem numRow_self (m : List Nat) (n : Nat) : numRow m n n = (numTo m n).1 := by simp [numRow]
theorem numRow_get (m : List Nat) {n k i : Nat} (hi : i < k) (h : k ≤ n) : gt (numRow m n k) i = gt (numTo m k).1 i := by
 unfold numRow gt
 simp only [List.getD_eq_getElem?_getD]
 rw [List.getElem?_append_left (by rw [numTo_length]; exact hi)]
theorem numRow_old (m : List Nat) {n k : Nat} (h : k < n) (hlt : gt m k < k) : (numRow m n k).set k (gt (numRow m n k) (gt m k)) = numRow m n (k + 1) := by
 rw [numRow_get m hlt (by omega)]
 unfold numRow
 rw [set_end _ _ _ _ _ (numTo_length m k) h]
 conv => rhs; unfold numTo
 rw [if_pos hlt]
theorem numRow_new (m : List Nat) {n k : Nat} (h : k < n) (hge : ¬ gt m k < k) : (numRow m n k).set k (numTo m k).2 = numRow m n (k + 1) := by
 unfold numRow
 rw [set_end _ _ _ _ _ (numTo_length m k) h]
 conv => rhs; unfold numTo
 rw [if_neg hge]
theorem numTo_old {m : List Nat} {k : Nat} (hlt : gt m k < k) : (numTo m (k + 1)).2 = (numTo m k).2 := by conv => lhs; unfold numTo; rw [if_pos hlt]
theorem numTo_new {m : List Nat} {k : Nat} (hge : ¬ gt m k < k) : (numTo m (k + 1)).2 = (numTo m k).2 + 1 := by conv => lhs; unfold numTo; rw [if_neg hge]
def RowAt (w : World) (b : Nat) (l : List Nat) : Prop := w.heap[b]? = some (.cells (nv l) 3 (0, 0))
theorem Frame.newCell {S : Nat → Prop} {a b : World} (h : Frame S a b) {i : Nat} (u : Value) : Frame S a (b.setCell ⟨a.heap.size, i, none⟩ u) :=
 ⟨h.os, h.tape, h.output, by simpa [World.setCell] using h.size, fun k hk hs => (Below.heap_setCell _ _ _ _ (by simp; omega)).trans (h.block k hk hs)⟩
set_option maxHeartbeats 1000000 in
set_option maxRecDepth 100000 in
theorem numbers_calls (p bP bS : Nat) (m P S : List Nat) (w : World) (h : AtPS w p bP bS m P S) :
  Calls Try.prog 74 #[.pointer (some ⟨p, 0, none⟩)] w fun e w' => ∃ bo, e = .returned (.tuple #[.slice (some ⟨bo, 0, none⟩) m.length m.length, .int .i64 (((numTo m m.length).2 : Nat) : Int)]) ∧ w.heap.size ≤ bo ∧ RowAt w' bo (numTo m m.length).1 ∧ Now p bP bS m w w' := by
 have H := Aside0.mk h
 have h0 := h.cell0
 have hs := h.small
 have mk1 := print_make (P := Try.prog) 32 3 .i64 8 Try.underlying32 info_int (by decide) m.length (by omega)
 rw [made_nv, ← numRow_zero m] at mk1
 have hp := blk_lt h.obj
 have hP := blk_lt h.par
 have hS := blk_lt h.siz
 clear h
 go_enter Try.func74, Try.ntmps74
 go_wp2
 clear mk1 h0
 have H1 : Aside0 (At (w.alloc (.cells (nv (numRow m m.length 0)) 3 (0, 0))) p bP bS m) := ⟨P, S, heap_old H.out.obj _, heap_old H.out.par _, heap_old H.out.siz _, H.out.ne1, H.out.ne2, H.out.ne3, H.out.small, H.out.rep, H.out.sized⟩
 have HO : Aside0 (RowAt (w.alloc (.cells (nv (numRow m m.length 0)) 3 (0, 0))) w.heap.size (numRow m m.length 0)) := ⟨heap_last _ _⟩
 have HF : Aside0 (Frame (Own p bP bS) w (w.alloc (.cells (nv (numRow m m.length 0)) 3 (0, 0)))) := ⟨(Frame.refl _ _).alloc _⟩
 generalize w.alloc (.cells (nv (numRow m m.length 0)) 3 (0, 0)) = w1 at H1 HO HF ⊢
 clear H
 go_loopw [5, 16] (fun c v wr => ∃ i : Nat, v = .int .i64 (i : Int) ∧ i ≤ m.length ∧ c = .int .i64 (((numTo m i).2 : Nat) : Int) ∧ Aside0 (At wr p bP bS m) ∧ Aside0 (RowAt wr w.heap.size (numRow m m.length i)) ∧ Aside0 (Frame (Own p bP bS) w wr)) (fun _ v _ => m.length - (intOf v).toNat)
 case atStart => exact ⟨0, rfl, by omega, rfl, H1, HO, HF⟩
 case round =>
  clear H1 HO HF
  obtain ⟨i, rfl, hi, rfl, HA, HO, HF⟩ := hrel
  obtain ⟨P1, S1, H1⟩ := HA.out
  have h0 := H1.cell0
  have H := Aside0.mk H1
  have hcl := numTo_le m i
  clear H1
  by_cases hlt : i < m.length
  ·have hml := H.out.rep.ml hlt
   by_cases hold : gt m i < i
   ·have HN := Aside0.mk (numRow_length m (n := m.length) (k := i) hi)
    go_wp2_with (go_at_call 81; refine (root_calls bP m.length m.length i _ P1 m _ H.out.par H.out.rep hlt rfl H.out.small).mono ?_; rintro e w' ⟨rfl, hc⟩; have HC := Aside0.mk (H.out.climbed hc); have HO2 := Aside0.mk (hc.choose_spec.2.2.blk HO.out (by omega)); clear hc; have c1 := nv_cell HO2.out (i := gt m i) (by rw [HN.out]; omega); have c2 := nv_cell HO2.out (i := i) (by rw [HN.out]; omega); have f1 := blk_free HO2.out i)
    obtain ⟨Q, h1, h2⟩ := HC.out
    have hb : ¬ Own p bP bS w.heap.size := by unfold Own; omega
    go_roundw
    case rel =>
     refine ⟨i + 1, by go_num, by omega, by rw [numTo_old hold], ⟨Q, S1, heap_setCell_ne h1.obj (by omega), heap_setCell_ne h1.par (by omega), heap_setCell_ne h1.siz (by omega), h1.ne1, h1.ne2, h1.ne3, h1.small, h1.rep, h1.sized⟩, ⟨?_⟩, ⟨?_⟩⟩
     ·have h3 : RowAt _ _ _ := blk_set_nv (i := i) (x := gt (numRow m m.length i) (gt m i)) HO2.out
      rw [numRow_old m hlt hold] at h3
      exact h3
     ·have h3 := HF.out.trans h2
      exact h3.newCell _
    case measure => simp [intOf]; omega
   ·have hge : gt m i = i := by omega
    have HN := Aside0.mk (numRow_length m (n := m.length) (k := i) hi)
    go_wp2_with (go_at_call 81; refine (root_calls bP m.length m.length i _ P1 m _ H.out.par H.out.rep hlt rfl H.out.small).mono ?_; rintro e w' ⟨rfl, hc⟩; have HC := Aside0.mk (H.out.climbed hc); have HO2 := Aside0.mk (hc.choose_spec.2.2.blk HO.out (by omega)); clear hc; have c1 := nv_cell HO2.out (i := gt m i) (by rw [HN.out]; omega); have c2 := nv_cell HO2.out (i := i) (by rw [HN.out]; omega); have f1 := blk_free HO2.out i)
    obtain ⟨Q, h1, h2⟩ := HC.out
    have hb : ¬ Own p bP bS w.heap.size := by unfold Own; omega
    go_roundw
    case rel =>
     refine ⟨i + 1, by go_num, by omega, by rw [numTo_new hold]; go_num, ⟨Q, S1, heap_setCell_ne h1.obj (by omega), heap_setCell_ne h1.par (by omega), heap_setCell_ne h1.siz (by omega), h1.ne1, h1.ne2, h1.ne3, h1.small, h1.rep, h1.sized⟩, ⟨?_⟩, ⟨?_⟩⟩
     ·have h3 : RowAt _ _ _ := blk_set_nv (i := i) (x := (numTo m i).2) HO2.out
      rw [numRow_new m hlt hold] at h3
      exact h3
     ·have h3 := HF.out.trans h2
      exact h3.newCell _
    case measure => simp [intOf]; omega
  ·obtain rfl : i = m.length := by omega
   go_wp2
   go_ret2
   have h3 := HO.out
   rw [numRow_self] at h3
   exact ⟨_, rfl, Nat.le_refl _, h3, HA.out, HF.out⟩
end Go.Proofs.Yteeihjpnhjnknaa.Sets
namespace Go.Proofs.Yteeihjpnhjnknaa.Sets
open Go.RowKit Go.Proofs.YteeihjpnhjnknaaW.PrintWords Go.Proofs.YteeihjpnhjnknaaW.PrintLast Go.Proofs.YteeihjpnhjnknaaW.PrintMore
set_option linter.unusedVariables false
set_option linter.unusedSimpArgs false
def pe (es : List (Int × Int)) (i : Nat) : Int × Int := es.getD i (0, 0)
def Pairs (w : World) (A : Option Addr) (es : List (Int × Int)) : Prop := ∀ i : Nat, i < es.length → ∃ ad, A = some ad ∧ w.cell? (ad.add (i * 2)) = some (.int .i64 (pe es i).1) ∧ w.cell? ⟨(ad.add (i * 2)).block, (ad.add (i * 2)).off + 1, none⟩ = some (.int .i64 (pe es i).2)
theorem cell_block {w : World} {a : Addr} {v : Value} (h : w.cell? a = some v) : a.block < w.heap.size := by
 unfold World.cell? at h
 by_cases hk : a.block < w.heap.size
 ·exact hk
 ·rw [Array.getElem?_eq_none (by omega)] at h; simp at h
theorem Pairs.below {w w' : World} {A : Option Addr} {es : List (Int × Int)} (h : Pairs w A es) (hb : Below w.heap.size w w') : Pairs w' A es := by
 intro i hi
 obtain ⟨ad, e, h1, h2⟩ := h i hi
 exact ⟨ad, e, by rw [hb.cell (cell_block h1)]; exact h1, by rw [hb.cell (cell_block h2)]; exact h2⟩
def joinAll (m : List Nat) (es : List (Int × Int)) : List Nat := es.foldl (fun m e => (joinOf m e.1 e.2).1) m
theorem joinOf_length (m : List Nat) (a b : Int) : (joinOf m a b).1.length = m.length := by
 unfold joinOf; split
 ·exact glue_length _ _ _
 ·rfl
theorem joinAll_length (es : List (Int × Int)) : ∀ m : List Nat, (joinAll m es).length = m.length := by
 induction es with
 | nil => intro m; rfl
 | cons e es ih => intro m; unfold joinAll at ih ⊢; rw [List.foldl_cons, ih, joinOf_length]
theorem joinAll_take (m : List Nat) (es : List (Int × Int)) {k : Nat} (h : k < es.length) : joinAll m (es.take (k + 1)) = (joinOf (joinAll m (es.take k)) (pe es k).1 (pe es k).2).1 := by
 unfold joinAll
 rw [List.take_succ_eq_append_getElem h, List.foldl_append]
 simp [pe, List.getD_eq_getElem?_getD, h]
theorem Now.at_ {p bP bS : Nat} {m : List Nat} {w w' : World} (h : Now p bP bS m w w') : At w' p bP bS m := h.1
def SaysYes (n : Int) (A : Option Addr) (l c : Nat) (w : World) : Prop := ∀ w', Below w.heap.size w w' →
 Calls Try.prog 71 #[.agg #[.int .i64 n, .slice A l c]] w' fun e w'' => e = .returned (.bool true) ∧ Below w'.heap.size w' w''
def SaysNo (n : Int) (A : Option Addr) (l c : Nat) (w : World) : Prop := ∀ w', Below w.heap.size w w' →
 Calls Try.prog 71 #[.agg #[.int .i64 n, .slice A l c]] w' fun e w'' => e = .returned (.bool false) ∧ Below w'.heap.size w' w''
set_option maxHeartbeats 1000000 in
set_option maxRecDepth 100000 in
theorem of_no (n : Int) (A : Option Addr) (l c : Nat) (w : World) (hv : SaysNo n A l c w) :
  Calls Try.prog 61 #[.agg #[.int .i64 n, .slice A l c]] w fun e w' => e = .returned (.tuple #[.slice none 0 0, .int .i64 0, .int .i64 1]) ∧ Below w.heap.size w w' := by
 have B0 := (Below.refl w.heap.size w).alloc (Nat.le_refl _) (.cells #[.int .i64 n, .slice A l c] 24 (0, 0))
 have HV := Aside0.mk (hv _ B0)
 have HB := Aside0.mk B0
 clear hv B0
 go_enter Try.func61, Try.ntmps61
 go_wp2_with (go_at_call 71; refine (HV.out).mono ?_; rintro e w' ⟨rfl, hb⟩; have HB2 := Aside0.mk (HB.out.trans (hb.mono (by simp))); clear hb)
 go_ret3
 exact ⟨rfl, HB2.out⟩
set_option maxHeartbeats 1000000 in
set_option maxRecDepth 100000 in
theorem of_yes (n : Nat) (A : Option Addr) (c : Nat) (es : List (Int × Int)) (w : World) (hv : SaysYes n A es.length c w) (hn : n ≤ 1048576) (he : Pairs w A es) (hl : es.length ≤ 9223372036854775807) :
  Calls Try.prog 61 #[.agg #[.int .i64 (n : Int), .slice A es.length c]] w fun e w' => ∃ bo, e = .returned (.tuple #[.slice (some ⟨bo, 0, none⟩) n n, .int .i64 (((numTo (joinAll (List.range n) es) n).2 : Nat) : Int), .int .i64 0]) ∧ w.heap.size ≤ bo ∧ RowAt w' bo (numTo (joinAll (List.range n) es) n).1 ∧ Below w.heap.size w w' := by
 have B0 := (Below.refl w.heap.size w).alloc (Nat.le_refl _) (.cells #[.int .i64 (n : Int), .slice A es.length c] 24 (0, 0))
 have HV := Aside0.mk (hv _ B0)
 have HB := Aside0.mk B0
 have HX := Aside0.mk (heap_last w (.cells #[.int .i64 (n : Int), .slice A es.length c] 24 (0, 0)))
 have HE := Aside0.mk he
 clear hv B0 he
 go_enter Try.func61, Try.ntmps61
 go_wp2_with fail
 refine (HV.out).mono ?_
 rintro e w2 ⟨rfl, hb⟩
 have HB2 := Aside0.mk (HB.out.trans (hb.mono (by simp)))
 have HX2 := Aside0.mk ((hb.block w.heap.size (by simp)).trans HX.out)
 clear hb HB HX HV
 have x0 : w2.cell? ⟨w.heap.size, 0, none⟩ = some (.int .i64 (n : Int)) := (blk_cell HX2.out 0).trans rfl
 go_wp2_with fail
 refine (new_yes n _ hn).mono ?_
 rintro e w3 ⟨p, bP, bS, rfl, hp1, hp2, hp3, hat, hb⟩
 have hsz := HB2.out.size
 have HB3 := Aside0.mk (HB2.out.trans (hb.mono hsz))
 have HX3 := Aside0.mk ((hb.block w.heap.size (blk_lt HX2.out)).trans HX2.out)
 have HPb : Aside0 (w.heap.size ≤ p ∧ w.heap.size ≤ bP ∧ w.heap.size ≤ bS) := ⟨by omega⟩
 have HA := Aside0.mk hat
 clear hb hat hp1 hp2 hp3 x0 hsz HX2 HB2
 have x1 : w3.cell? ⟨w.heap.size, 1, none⟩ = some (.slice A es.length c) := (blk_cell HX3.out 1).trans rfl
 go_wp2
 clear x1 HX3
 go_loopw [23] (fun v wr => ∃ i : Nat, v = .int .i64 (i : Int) ∧ i ≤ es.length ∧ Aside0 (At wr p bP bS (joinAll (List.range n) (es.take i))) ∧ Aside0 (Below w.heap.size w wr)) (fun v _ => es.length - (intOf v).toNat)
 case atStart => exact ⟨0, rfl, by omega, HA, HB3⟩
 case round =>
  clear HA HB3
  obtain ⟨i, rfl, hi, HA, HB⟩ := hrel
  by_cases hlt : i < es.length
  ·obtain ⟨ad, eA, hc1, hc2⟩ := (HE.out.below HB.out) i hlt
   subst eA
   go_wp2_with fail
   obtain ⟨P1, S1, H1⟩ := HA.out
   have hpb := HPb.out
   have hsz := HB.out.size
   have H2 : AtPS (wr.alloc (.cells #[.int .i64 (pe es i).1, .int .i64 (pe es i).2] 89 (0, 0))) p bP bS (joinAll (List.range n) (es.take i)) P1 S1 := ⟨heap_old H1.obj _, heap_old H1.par _, heap_old H1.siz _, H1.ne1, H1.ne2, H1.ne3, H1.small, H1.rep, H1.sized⟩
   have hF : Frame (Own p bP bS) wr (wr.alloc (.cells #[.int .i64 (pe es i).1, .int .i64 (pe es i).2] 89 (0, 0))) := (Frame.refl _ _).alloc _
   have H3 := Aside0.mk H2
   have HF := Aside0.mk hF
   clear H1 H2 hF
   refine (join_calls p bP bS _ P1 S1 _ _ _ H3.out).mono ?_
   rintro e w5 ⟨rfl, hA, hF⟩
   have HA2 := Aside0.mk hA
   have HB2 := Aside0.mk (HB.out.trans ((HF.out.trans hF).below hsz (fun k hk => by unfold Own at hk; omega)))
   have hlen := joinAll_take (List.range n) es hlt
   rw [← hlen] at HA2
   clear hA hF hlen
   go_wp2
   go_roundw
   case rel => exact ⟨i + 1, by go_num, by omega, HA2, HB2⟩
   case measure => simp [intOf]; omega
  ·obtain rfl : i = es.length := by omega
   obtain ⟨P1, S1, H1⟩ := HA.out
   have H := Aside0.mk H1
   have hpb := HPb.out
   have hsz := HB.out.size
   clear H1
   go_wp2_with fail
   refine (numbers_calls p bP bS _ P1 S1 _ H.out).mono ?_
   rintro e w5 ⟨bo, rfl, hbo, hrow, hA, hF⟩
   rw [List.take_length, joinAll_length, List.length_range] at hrow ⊢
   have HR := Aside0.mk hrow
   have HB2 := Aside0.mk (HB.out.trans (hF.below hsz (fun k hk => by unfold Own at hk; omega)))
   clear hrow hA hF
   go_wp2
   go_ret3
   exact ⟨bo, rfl, by omega, HR.out, HB2.out⟩
end Go.Proofs.Yteeihjpnhjnknaa.Sets
namespace Go.Proofs.Yteeihjpnhjnknaa.Sets
set_option linter.unusedVariables false
inductive Conn (E : Nat → Nat → Prop) : Nat → Nat → Prop where
 | refl (a : Nat) : Conn E a a
 | fwd {a b c : Nat} : Conn E a b → E b c → Conn E a c
 | bwd {a b c : Nat} : Conn E a b → E c b → Conn E a c
theorem Conn.trans {E : Nat → Nat → Prop} {a b c : Nat} (h : Conn E a b) (k : Conn E b c) : Conn E a c := by
 induction k with
 | refl => exact h
 | fwd _ e ih => exact .fwd ih e
 | bwd _ e ih => exact .bwd ih e
theorem Conn.one {E : Nat → Nat → Prop} {a b : Nat} (e : E a b) : Conn E a b := .fwd (.refl a) e
theorem Conn.symm {E : Nat → Nat → Prop} {a b : Nat} (h : Conn E a b) : Conn E b a := by
 induction h with
 | refl => exact .refl _
 | fwd _ e ih => exact (Conn.bwd (.refl _) e).trans ih
 | bwd _ e ih => exact (Conn.fwd (.refl _) e).trans ih
theorem Conn.mono {E F : Nat → Nat → Prop} (hEF : ∀ a b, E a b → Conn F a b) {a b : Nat} (h : Conn E a b) : Conn F a b := by
 induction h with
 | refl => exact .refl _
 | fwd _ e ih => exact ih.trans (hEF _ _ e)
 | bwd _ e ih => exact ih.trans (hEF _ _ e).symm
structure Part (n : Nat) (E : Nat → Nat → Prop) (m : List Nat) : Prop where
 len : m.length = n
 inn : ∀ a b, E a b → a < n ∧ b < n
 le : ∀ i, i < n → gt m i ≤ i
 edge : ∀ a b, E a b → gt m a = gt m b
 conn : ∀ i, i < n → Conn E i (gt m i)
theorem Part.const {n : Nat} {E : Nat → Nat → Prop} {m : List Nat} (h : Part n E m) {a b : Nat} (c : Conn E a b) : gt m a = gt m b := by
 induction c with
 | refl => rfl
 | fwd _ e ih => exact ih.trans (h.edge _ _ e)
 | bwd _ e ih => exact ih.trans (h.edge _ _ e).symm
theorem Part.lt {n : Nat} {E : Nat → Nat → Prop} {m : List Nat} (h : Part n E m) {i : Nat} (hi : i < n) : gt m i < n := by have := h.le i hi; omega
theorem Part.idem {n : Nat} {E : Nat → Nat → Prop} {m : List Nat} (h : Part n E m) {i : Nat} (hi : i < n) : gt m (gt m i) = gt m i := (h.const (h.conn i hi)).symm
theorem Part.iff {n : Nat} {E : Nat → Nat → Prop} {m : List Nat} (h : Part n E m) {i j : Nat} (hi : i < n) (hj : j < n) : gt m i = gt m j ↔ Conn E i j :=
 ⟨fun e => (h.conn i hi).trans (by rw [e]; exact (h.conn j hj).symm), fun c => h.const c⟩
theorem list_ext_gt {l m : List Nat} (hl : l.length = m.length) (h : ∀ i, i < l.length → gt l i = gt m i) : l = m := by
 apply List.ext_getElem hl
 intro i h1 h2
 have := h i h1
 simpa [gt, List.getD_eq_getElem?_getD, h1, h2] using this
theorem Part.unique {n : Nat} {E F : Nat → Nat → Prop} {m m' : List Nat} (h : Part n E m) (k : Part n F m') (hEF : ∀ a b, E a b → Conn F a b) (hFE : ∀ a b, F a b → Conn E a b) : m = m' := by
 refine list_ext_gt (h.len.trans k.len.symm) (fun i hi => ?_)
 rw [h.len] at hi
 have h1 := k.const ((h.conn i hi).mono hEF)
 have h2 := h.const ((k.conn i hi).mono hFE)
 have h3 := k.le _ (h.lt hi)
 have h4 := h.le _ (k.lt hi)
 omega
theorem Part.congr {n : Nat} {E F : Nat → Nat → Prop} {m : List Nat} (h : Part n E m) (hin : ∀ a b, F a b → a < n ∧ b < n) (hEF : ∀ a b, E a b → Conn F a b) (hFE : ∀ a b, F a b → Conn E a b) : Part n F m :=
 ⟨h.len, hin, h.le, fun a b f => h.const (hFE a b f), fun i hi => (h.conn i hi).mono hEF⟩
theorem Part.range (n : Nat) : Part n (fun _ _ => False) (List.range n) :=
 ⟨by simp, fun _ _ h => h.elim, fun i hi => by rw [range_get hi]; exact Nat.le_refl _, fun _ _ h => h.elim, fun i hi => by rw [range_get hi]; exact .refl _⟩
theorem Part.glue {n : Nat} {E : Nat → Nat → Prop} {m : List Nat} (h : Part n E m) {a b lo hi : Nat} (ha : a < n) (hb : b < n) (hlt : lo < hi) (hor : (gt m a = lo ∧ gt m b = hi) ∨ (gt m a = hi ∧ gt m b = lo)) :
  Part n (fun x y => E x y ∨ (x = a ∧ y = b)) (Sets.glue lo hi m) := by
 have hl := h.len
 have g : ∀ i, i < n → gt (Sets.glue lo hi m) i = if gt m i = hi then lo else gt m i := fun i hi' => glue_get _ _ _ (by omega)
 have cab : Conn (fun x y => E x y ∨ (x = a ∧ y = b)) a b := .one (.inr ⟨rfl, rfl⟩)
 have up : ∀ x y, E x y → Conn (fun x y => E x y ∨ (x = a ∧ y = b)) x y := fun x y e => .one (.inl e)
 have clh : Conn (fun x y => E x y ∨ (x = a ∧ y = b)) hi lo := by
  have c1 := (h.conn a ha).mono up
  have c2 := (h.conn b hb).mono up
  rcases hor with ⟨e1, e2⟩ | ⟨e1, e2⟩
  ·rw [e1] at c1; rw [e2] at c2; exact (c2.symm.trans cab.symm).trans c1
  ·rw [e1] at c1; rw [e2] at c2; exact (c1.symm.trans cab).trans c2
 refine ⟨by rw [glue_length]; exact hl, ?_, ?_, ?_, ?_⟩
 ·rintro x y (e | ⟨rfl, rfl⟩)
  ·exact h.inn x y e
  ·exact ⟨ha, hb⟩
 ·intro i hi'
  rw [g i hi']
  have := h.le i hi'
  split <;> omega
 ·rintro x y (e | ⟨rfl, rfl⟩)
  ·have := h.inn x y e
   rw [g x this.1, g y this.2, h.edge x y e]
  ·rw [g x ha, g y hb]
   rcases hor with ⟨e1, e2⟩ | ⟨e1, e2⟩
   ·rw [e1, e2, if_neg (by omega), if_pos rfl]
   ·rw [e1, e2, if_pos rfl, if_neg (by omega)]
 ·intro i hi'
  have c := (h.conn i hi').mono up
  rw [g i hi']
  split
  ·rename_i e; rw [e] at c; exact c.trans clh
  ·exact c
end Go.Proofs.Yteeihjpnhjnknaa.Sets
namespace Go.Proofs.Yteeihjpnhjnknaa.Sets
set_option linter.unusedVariables false
def EP (n : Nat) (es : List (Int × Int)) (a b : Nat) : Prop := a < n ∧ b < n ∧ ((a : Int), (b : Int)) ∈ es
theorem ok_iff {m : List Nat} {a : Int} : ok m a = true ↔ 0 ≤ a ∧ a < (m.length : Int) := by
 simp only [ok, Bool.and_eq_true, decide_eq_true_eq]
theorem joinOf_same {m : List Nat} {a b : Nat} (h : gt m a = gt m b) : joinOf m a b = (m, false) := by
 unfold joinOf; rw [if_neg (by simp [h])]
theorem joinOf_out {m : List Nat} {a b : Int} (h : ¬ (ok m a = true ∧ ok m b = true)) : joinOf m a b = (m, false) := by
 unfold joinOf; rw [if_neg (by simp only [Bool.and_eq_true]; exact fun e => h e.1)]
theorem joinOf_two {m : List Nat} {a b : Nat} (ha : a < m.length) (hb : b < m.length) (h : gt m a ≠ gt m b) : joinOf m a b = (glue (min (gt m a) (gt m b)) (max (gt m a) (gt m b)) m, true) := by
 unfold joinOf; rw [if_pos (by simp [ok_of ha, ok_of hb, h])]; simp
theorem joinOf_part {n : Nat} {E : Nat → Nat → Prop} {m : List Nat} (h : Part n E m) (a b : Int) : Part n (fun x y => E x y ∨ (x < n ∧ y < n ∧ (x : Int) = a ∧ (y : Int) = b)) (joinOf m a b).1 := by
 have hl := h.len
 by_cases hk : ok m a = true ∧ ok m b = true
 ·obtain ⟨i, rfl, hi⟩ := ok_nat hk.1
  obtain ⟨j, rfl, hj⟩ := ok_nat hk.2
  rw [hl] at hi hj
  by_cases he : gt m i = gt m j
  ·rw [joinOf_same he]
   refine h.congr ?_ (fun a b e => .one (.inl e)) ?_
   ·rintro x y (e | ⟨hx, hy, _⟩)
    ·exact h.inn x y e
    ·exact ⟨hx, hy⟩
   ·rintro x y (e | ⟨hx, hy, ex, ey⟩)
    ·exact .one e
    ·obtain rfl : x = i := by omega
     obtain rfl : y = j := by omega
     exact (h.iff hi hj).1 he
  ·rw [joinOf_two (by omega) (by omega) he]
   have hg := h.glue (a := i) (b := j) (lo := min (gt m i) (gt m j)) (hi := max (gt m i) (gt m j)) hi hj (by omega) (by omega)
   refine hg.congr ?_ ?_ ?_
   ·rintro x y (e | ⟨hx, hy, _⟩)
    ·exact h.inn x y e
    ·exact ⟨hx, hy⟩
   ·rintro x y (e | ⟨rfl, rfl⟩)
    ·exact .one (.inl e)
    ·exact .one (.inr ⟨hi, hj, rfl, rfl⟩)
   ·rintro x y (e | ⟨hx, hy, ex, ey⟩)
    ·exact .one (.inl e)
    ·exact .one (.inr ⟨by omega, by omega⟩)
 ·rw [joinOf_out hk]
  refine h.congr ?_ (fun a b e => .one (.inl e)) ?_
  ·rintro x y (e | ⟨hx, hy, _⟩)
   ·exact h.inn x y e
   ·exact ⟨hx, hy⟩
  ·rintro x y (e | ⟨hx, hy, ex, ey⟩)
   ·exact .one e
   ·exact absurd ⟨ok_iff.2 (by omega), ok_iff.2 (by omega)⟩ hk
theorem joinAll_part_from {n : Nat} (es : List (Int × Int)) : ∀ {E : Nat → Nat → Prop} {m : List Nat}, Part n E m → Part n (fun x y => E x y ∨ EP n es x y) (joinAll m es) := by
 induction es with
 | nil =>
  intro E m h
  exact h.congr (fun a b e => e.elim (h.inn a b) (fun e => by simp [EP] at e)) (fun a b e => .one (.inl e)) (fun a b e => e.elim .one (fun e => by simp [EP] at e))
 | cons e es ih =>
  intro E m h
  have h1 := ih (joinOf_part h e.1 e.2)
  refine h1.congr ?_ ?_ ?_
  ·rintro x y (e | ⟨hx, hy, _⟩)
   ·exact h.inn x y e
   ·exact ⟨hx, hy⟩
  ·rintro x y ((e' | ⟨hx, hy, ex, ey⟩) | ⟨hx, hy, hm⟩)
   ·exact .one (.inl e')
   ·exact .one (.inr ⟨hx, hy, by rw [ex, ey]; exact List.mem_cons_self ..⟩)
   ·exact .one (.inr ⟨hx, hy, List.mem_cons_of_mem _ hm⟩)
  ·rintro x y (e' | ⟨hx, hy, hm⟩)
   ·exact .one (.inl (.inl e'))
   ·rcases List.mem_cons.1 hm with he | hm
    ·exact .one (.inl (.inr ⟨hx, hy, by rw [← he], by rw [← he]⟩))
    ·exact .one (.inr ⟨hx, hy, hm⟩)
theorem joinAll_part (n : Nat) (es : List (Int × Int)) : Part n (EP n es) (joinAll (List.range n) es) := by
 have h := joinAll_part_from es (Part.range n)
 exact h.congr (fun a b e => ⟨e.1, e.2.1⟩) (fun a b e => e.elim (fun e => e.elim) .one) (fun a b e => .one (.inr e))
end Go.Proofs.Yteeihjpnhjnknaa.Sets
namespace Go.Proofs.Yteeihjpnhjnknaa.Sets
open Go.RowKit Go.Proofs.YteeihjpnhjnknaaW.PrintWords Go.Proofs.YteeihjpnhjnknaaW.PrintLast Go.Proofs.YteeihjpnhjnknaaW.PrintMore
set_option linter.unusedVariables false
set_option linter.unusedSimpArgs false
def gl (gs : List (List Nat)) (j : Nat) : List Nat := gs.getD j []
def va (vs : List Value) (j : Nat) : Value := vs.getD j (.slice none 0 0)
theorem gl_set (gs : List (List Nat)) (i j : Nat) (x : List Nat) : gl (gs.set i x) j = if i = j ∧ j < gs.length then x else gl gs j := by
 unfold gl
 simp only [List.getD_eq_getElem?_getD, List.getElem?_set]
 by_cases h : i = j
 ·subst h
  by_cases h2 : i < gs.length <;> simp [h2]
 ·simp [h]
theorem va_set (gs : List Value) (i j : Nat) (x : Value) : va (gs.set i x) j = if i = j ∧ j < gs.length then x else va gs j := by
 unfold va
 simp only [List.getD_eq_getElem?_getD, List.getElem?_set]
 by_cases h : i = j
 ·subst h
  by_cases h2 : i < gs.length <;> simp [h2]
 ·simp [h]
def iv (l : List Nat) : List Value := l.map fun (x : Nat) => Value.int .i64 (x : Int)
structure GRows (w : World) (B bo : Nat) (vs : List Value) (gs : List (List Nat)) : Prop where
 len : vs.length = gs.length
 out : w.heap[bo]? = some (.cells vs.toArray 32 (0, 0))
 own : ∀ j, j < gs.length → w.ownsRow B 3 1 (va vs j) (gl gs j).length (iv (gl gs j))
 apart : ∀ i j, i < gs.length → j < gs.length → i ≠ j → ∀ k, (va vs i).ownBlock = some k → (va vs j).ownBlock ≠ some k
 lt : bo < B
 base : B ≤ w.heap.size
theorem own_lt {w : World} {B e s n : Nat} {v : Value} {xs : List Value} (h : w.ownsRow B e s v n xs) {k : Nat} (hk : v.ownBlock = some k) : B ≤ k ∧ k < w.heap.size := h.lt k hk
theorem own_move' {w w1 : World} {base : Nat} {e : TypeId} {size n : Nat} {v : Value} {xs : List Value} (h : w.ownsRow base e size v n xs) (hm : ∀ k, v.ownBlock = some k → w1.heap[k]? = w.heap[k]?) : w1.ownsRow base e size v n xs := own_move h hm
theorem GRows.frame {w w' : World} {B bo : Nat} {vs : List Value} {gs : List (List Nat)} (h : GRows w B bo vs gs) (hs : w.heap.size ≤ w'.heap.size) (hb : ∀ k, B ≤ k → k < w.heap.size → w'.heap[k]? = w.heap[k]?) (ho : w'.heap[bo]? = w.heap[bo]?) : GRows w' B bo vs gs :=
 ⟨h.len, ho.trans h.out, fun j hj => own_move' (h.own j hj) (fun k hk => hb k (own_lt (h.own j hj) hk).1 (own_lt (h.own j hj) hk).2), h.apart, h.lt, Nat.le_trans h.base hs⟩
theorem GRows.alloc {w : World} {B bo : Nat} {vs : List Value} {gs : List (List Nat)} (h : GRows w B bo vs gs) (o : Obj) : GRows (w.alloc o) B bo vs gs :=
 h.frame (by simp) (fun k _ hk => Below.heap_alloc _ _ _ hk) (Below.heap_alloc _ _ _ (blk_lt h.out))
theorem GRows.cell {w : World} {B bo : Nat} {vs : List Value} {gs : List (List Nat)} (h : GRows w B bo vs gs) {j : Nat} (hj : j < gs.length) : w.cell? ⟨bo, j, none⟩ = some (va vs j) := by
 have hl := h.len
 simp [World.cell?, h.out, va, List.getD_eq_getElem?_getD, show j < vs.length by omega]
theorem GRows.put {w w1 : World} {B bo : Nat} {vs : List Value} {gs : List (List Nat)} (h : GRows w B bo vs gs) {k : Nat} (hk : k < gs.length) {v' : Value} {a : Nat}
  (hown : w1.ownsRow B 3 1 v' ((gl gs k).length + 1) (iv (gl gs k) ++ [.int .i64 (a : Int)])) (hg : w.grownBy w1 (va vs k).ownBlock) (hat : v'.ownBlock = (va vs k).ownBlock ∨ v'.ownBlock = some w.heap.size) :
  GRows (w1.setCell ⟨bo, k, none⟩ v') B bo (vs.set k v') (gs.set k (gl gs k ++ [a])) := by
 have hl := h.len
 have hlt := h.lt
 have hne : ∀ q, (va vs k).ownBlock = some q → q ≠ bo := fun q hq e => by have := (own_lt (h.own k hk) hq).1; omega
 have ho1 : w1.heap[bo]? = some (.cells vs.toArray 32 (0, 0)) := (hg.block bo (blk_lt h.out) (fun e => hne bo e.symm rfl)).trans h.out
 refine ⟨by simp [h.len], ?_, ?_, ?_, h.lt, by have := h.base; have := hg.size; simp [World.setCell]; omega⟩
 ·rw [blk_setCell ho1]; simp
 ·intro j hj
  rw [List.length_set] at hj
  rw [gl_set, va_set]
  by_cases hkj : k = j
  ·subst hkj
   rw [if_pos ⟨rfl, by omega⟩, if_pos ⟨rfl, hj⟩]
   have e1 : iv (gl gs k ++ [a]) = iv (gl gs k) ++ [.int .i64 (a : Int)] := by simp [iv]
   rw [List.length_append, List.length_singleton, e1]
   exact own_move' hown (fun q hq => Below.heap_setCell _ _ _ _ (fun e => by have := (own_lt hown hq).1; simp at e; omega))
  ·rw [if_neg (by simp [hkj]), if_neg (by simp [hkj])]
   refine own_move' (h.own j hj) (fun q hq => ?_)
   have hq2 := own_lt (h.own j hj) hq
   rw [Below.heap_setCell _ _ _ _ (fun e => by simp at e; omega)]
   exact hg.block q hq2.2 (fun e => h.apart k j hk hj hkj q e.symm hq)
 ·intro i j hi hj hij q hq
  rw [List.length_set] at hi hj
  rw [va_set] at hq
  rw [va_set]
  by_cases hki : k = i
  ·subst hki
   rw [if_pos ⟨rfl, by omega⟩] at hq
   rw [if_neg (by simp [hij])]
   intro hq2
   rcases hat with e | e
   ·exact h.apart k j hi hj hij q (e ▸ hq) hq2
   ·have := (own_lt (h.own j hj) hq2).2
    rw [hq] at e
    simp at e; omega
  ·rw [if_neg (by simp [hki])] at hq
   by_cases hkj : k = j
   ·subst hkj
    rw [if_pos ⟨rfl, by omega⟩]
    intro hq2
    rcases hat with e | e
    ·exact h.apart i k hi hj hij q hq (e ▸ hq2)
    ·have := (own_lt (h.own i hi) hq).2
     rw [hq2] at e
     simp at e; omega
   ·rw [if_neg (by simp [hkj])]
    exact h.apart i j hi hj hij q hq
def grpTo (nums : List Nat) (c : Nat) : Nat → List (List Nat)
 | 0 => List.replicate c []
 | k + 1 => (grpTo nums c k).set (gt nums k) (gl (grpTo nums c k) (gt nums k) ++ [k])
theorem info_ints : (Try.prog.info? 32).map (fun i => (i.zero, i.size, i.bytes)) = some (some (.slice none 0 0), 1, 24) := by kernel_rfl
theorem made_nil (n : Nat) : madeCells #[.slice none 0 0] n = Array.replicate n (Value.slice none 0 0) := by
 apply Array.ext
 ·simp [madeCells]
 ·intro i h1 h2
  simp [madeCells, Nat.mod_one]
theorem GRows.start {w : World} (n : Nat) : GRows (w.alloc (.cells (Array.replicate n (Value.slice none 0 0)) 32 (0, 0))) (w.heap.size + 1) w.heap.size (List.replicate n (.slice none 0 0)) (List.replicate n []) := by
 have g : ∀ j, va (List.replicate n (.slice none 0 0)) j = .slice none 0 0 := fun j => by unfold va; rw [List.getD_eq_getElem?_getD, List.getElem?_replicate]; split <;> rfl
 have g2 : ∀ j, gl (List.replicate n []) j = [] := fun j => by unfold gl; rw [List.getD_eq_getElem?_getD, List.getElem?_replicate]; split <;> rfl
 refine ⟨by simp, by simpa using heap_last w (.cells (Array.replicate n (Value.slice none 0 0)) 32 (0, 0)), fun j _ => ?_, fun i j _ _ _ k hk => ?_, by omega, by simp⟩
 ·rw [g, g2]; exact World.ownsRow_nil _ _ _ _
 ·rw [g] at hk; simp [Value.ownBlock] at hk
def groupsOf (m : List Nat) : List (List Nat) := grpTo (numTo m m.length).1 (numTo m m.length).2 m.length
end Go.Proofs.Yteeihjpnhjnknaa.Sets
namespace Go.Proofs.Yteeihjpnhjnknaa.Sets
open Go.RowKit Go.Proofs.YteeihjpnhjnknaaW.PrintWords Go.Proofs.YteeihjpnhjnknaaW.PrintLast Go.Proofs.YteeihjpnhjnknaaW.PrintMore
set_option linter.unusedVariables false
set_option linter.unusedSimpArgs false
structure RowG (w : World) (g cap : Nat) (l : List Nat) : Prop where
 ex : ∃ cur, w.heap[g]? = some (.cells cur 3 (0, 0)) ∧ cur.size = cap ∧ cur.toList.take l.length = iv l
 le : l.length ≤ cap
theorem iv_get (l : List Nat) (i : Nat) (h : i < l.length) : (iv l)[i]? = some (.int .i64 ((gt l i : Nat) : Int)) := by
 simp [iv, gt, List.getD_eq_getElem?_getD, h]
theorem RowG.cell {w : World} {g cap : Nat} {l : List Nat} (h : RowG w g cap l) {i : Nat} (hi : i < l.length) : w.cell? ⟨g, i, none⟩ = some (.int .i64 ((gt l i : Nat) : Int)) := by
 obtain ⟨cur, h1, h2, h3⟩ := h.ex
 have e : cur[i]? = (cur.toList.take l.length)[i]? := by rw [List.getElem?_take_of_lt hi]; simp
 simp only [World.cell?, h1, Option.isSome_none, Bool.false_eq_true, if_false]
 rw [e, h3, iv_get l i hi]
theorem RowG.free {w : World} {g cap : Nat} {l : List Nat} (h : RowG w g cap l) (i : Nat) : w.frozen? ⟨g, i, none⟩ = false := by
 obtain ⟨cur, h1, _⟩ := h.ex
 exact blk_free h1 i
theorem RowG.lt {w : World} {g cap : Nat} {l : List Nat} (h : RowG w g cap l) : g < w.heap.size := by
 obtain ⟨cur, h1, _⟩ := h.ex
 exact blk_lt h1
theorem RowG.frame {w w' : World} {g cap : Nat} {l : List Nat} (h : RowG w g cap l) (hb : w'.heap[g]? = w.heap[g]?) : RowG w' g cap l := by
 obtain ⟨cur, h1, h2⟩ := h.ex
 exact ⟨⟨cur, hb.trans h1, h2⟩, h.le⟩
theorem RowG.set {w : World} {g cap : Nat} {l : List Nat} (h : RowG w g cap l) (i x : Nat) (hi : i < l.length) : RowG (w.setCell ⟨g, i, none⟩ (.int .i64 (x : Int))) g cap (l.set i x) := by
 obtain ⟨cur, h1, h2, h3⟩ := h.ex
 refine ⟨⟨_, blk_setCell h1 _, by simpa using h2, ?_⟩, by simpa using h.le⟩
 rw [List.length_set, Array.toList_setIfInBounds, List.take_set, h3]
 simp [iv, List.map_set]
theorem RowG.of_own {w : World} {base : Nat} {ok : Nat → Prop} {v : Value} {l : List Nat} (h : Kd.R (Kd.int .i64) 3 w base ok v (l.map fun (x : Nat) => (x : Int))) (hl : 0 < l.length) : ∃ g cap, v = .slice (some ⟨g, 0, none⟩) l.length cap ∧ base ≤ g ∧ cap ≤ 9223372036854775807 ∧ RowG w g cap l := by
 obtain ⟨_, inner, ho, hr⟩ := h
 have he : inner = encs (Value.int .i64) (l.map fun (x : Nat) => (x : Int)) := Kd.reps_encs hr
 obtain ⟨h1, ⟨rfl, hn⟩ | ⟨g, cap, cur, rfl, hb, hh, hc, hm, hs, ht⟩⟩ := ho
 ·rw [List.length_map] at hn; omega
 ·refine ⟨g, cap, by simp, hb, by simpa [maxLen] using hm, ⟨⟨cur, hh, by simpa [Kd.int, Kd.scalar] using hs, ?_⟩, by simpa using hc⟩⟩
  have hsz : (Kd.int .i64).sz = 1 := rfl
  rw [hsz, Nat.mul_one, List.length_map, he] at ht
  rw [ht]; simp [encs, iv]
def total (l : List Nat) : Nat := l.sum
theorem total_set {l : List Nat} {i x : Nat} (hi : i < l.length) (h : x < gt l i) : total (l.set i x) < total l := by
 unfold total
 induction l generalizing i with
 | nil => simp at hi
 | cons a l ih =>
  cases i with
  | zero => simp [gt] at h ⊢; omega
  | succ i =>
   have := ih (i := i) (by simpa using hi) (by simpa [gt] using h)
   simp; omega
def Good (n : Nat) (E : Nat → Nat → Prop) (l : List Nat) : Prop := l.length = n ∧ (∀ i, i < n → gt l i ≤ i) ∧ ∀ i, i < n → Conn E i (gt l i)
theorem Good.set {n : Nat} {E : Nat → Nat → Prop} {l : List Nat} (h : Good n E l) {u v : Nat} (hu : u < n) (hv : v < n) (hc : Conn E u v) (hlt : gt l v < gt l u) : Good n E (l.set u (gt l v)) := by
 obtain ⟨h1, h2, h3⟩ := h
 refine ⟨by simp [h1], fun i hi => ?_, fun i hi => ?_⟩
 ·rw [getD_set]; split
  ·rename_i c; obtain ⟨rfl, _⟩ := c
   have := h2 u hi; omega
  ·exact h2 i hi
 ·rw [getD_set]; split
  ·rename_i c; obtain ⟨rfl, _⟩ := c
   exact hc.trans (h3 v hv)
  ·exact h3 i hi
theorem Good.range (n : Nat) (E : Nat → Nat → Prop) : Good n E (List.range n) :=
 ⟨by simp, fun i hi => by rw [range_get hi]; exact Nat.le_refl _, fun i hi => by rw [range_get hi]; exact .refl _⟩
theorem Good.done {n : Nat} {es : List (Int × Int)} {l : List Nat} (h : Good n (EP n es) l) (hst : ∀ a b, EP n es a b → gt l a = gt l b) : l = joinAll (List.range n) es :=
 Part.unique (E := EP n es) (F := EP n es) ⟨h.1, fun a b e => ⟨e.1, e.2.1⟩, h.2.1, hst, h.2.2⟩ (joinAll_part n es) (fun _ _ => .one) (fun _ _ => .one)
def RefYes (n : Int) (A : Option Addr) (l c : Nat) (w : World) : Prop := ∀ w', Below w.heap.size w w' →
 Calls Try.prog 49 #[.agg #[.int .i64 n, .slice A l c]] w' fun e w'' => e = .returned (.bool true) ∧ Below w'.heap.size w' w''
def RefNo (n : Int) (A : Option Addr) (l c : Nat) (w : World) : Prop := ∀ w', Below w.heap.size w w' →
 Calls Try.prog 49 #[.agg #[.int .i64 n, .slice A l c]] w' fun e w'' => e = .returned (.bool false) ∧ Below w'.heap.size w' w''
def RefNew (n : Nat) : Prop := ∀ w',
 Calls Try.prog 64 #[.int .i64 (n : Int)] w' fun e w'' => ∃ v, e = .returned (.tuple #[v, .int .i64 0]) ∧ Kd.R (Kd.int .i64) 3 w'' w'.heap.size (fun _ => True) v ((List.range n).map fun (x : Nat) => (x : Int)) ∧ Below w'.heap.size w' w''
set_option maxHeartbeats 1000000 in
set_option maxRecDepth 100000 in
theorem refOf_no (n : Int) (A : Option Addr) (l c : Nat) (w : World) (hv : RefNo n A l c w) :
  Calls Try.prog 48 #[.agg #[.int .i64 n, .slice A l c]] w fun e w' => e = .returned (.tuple #[.slice none 0 0, .int .i64 0, .int .i64 1]) ∧ Below w.heap.size w w' := by
 have B0 := (Below.refl w.heap.size w).alloc (Nat.le_refl _) (.cells #[.int .i64 n, .slice A l c] 24 (0, 0))
 have HV := Aside0.mk (hv _ B0)
 have HB := Aside0.mk B0
 clear hv B0
 go_enter Try.func48, Try.ntmps48
 go_wp2_with (go_at_call 49; refine (HV.out).mono ?_; rintro e w' ⟨rfl, hb⟩; have HB2 := Aside0.mk (HB.out.trans (hb.mono (by simp))); clear hb)
 go_ret3
 exact ⟨rfl, HB2.out⟩
set_option maxHeartbeats 2000000 in
set_option maxRecDepth 100000 in
theorem refOf_pos (n : Nat) (A : Option Addr) (c : Nat) (es : List (Int × Int)) (w : World) (hv : RefYes n A es.length c w) (hnew : RefNew n) (hn : n ≤ 1048576) (hpos : 0 < n) (he : Pairs w A es) (hl : es.length ≤ 4194304)
  (hin : ∀ i, i < es.length → 0 ≤ (pe es i).1 ∧ (pe es i).1 < n ∧ 0 ≤ (pe es i).2 ∧ (pe es i).2 < n) :
  Calls Try.prog 48 #[.agg #[.int .i64 (n : Int), .slice A es.length c]] w fun e w' => ∃ bo, e = .returned (.tuple #[.slice (some ⟨bo, 0, none⟩) n n, .int .i64 (((numTo (joinAll (List.range n) es) n).2 : Nat) : Int), .int .i64 0]) ∧ w.heap.size ≤ bo ∧ RowAt w' bo (numTo (joinAll (List.range n) es) n).1 ∧ Below w.heap.size w w' := by
 have B0 := (Below.refl w.heap.size w).alloc (Nat.le_refl _) (.cells #[.int .i64 (n : Int), .slice A es.length c] 24 (0, 0))
 have HV := Aside0.mk (hv _ B0)
 have HB := Aside0.mk B0
 have HX := Aside0.mk (heap_last w (.cells #[.int .i64 (n : Int), .slice A es.length c] 24 (0, 0)))
 have HE := Aside0.mk he
 have HNEW := Aside0.mk hnew
 have HIN := Aside0.mk hin
 clear hv B0 he hnew hin
 go_enter Try.func48, Try.ntmps48
 go_wp2_with fail
 refine (HV.out).mono ?_
 rintro e w2 ⟨rfl, hb⟩
 have HB2 := Aside0.mk (HB.out.trans (hb.mono (by simp)))
 have HX2 := Aside0.mk ((hb.block w.heap.size (by simp)).trans HX.out)
 clear hb HB HX HV
 have x0 : w2.cell? ⟨w.heap.size, 0, none⟩ = some (.int .i64 (n : Int)) := (blk_cell HX2.out 0).trans rfl
 go_wp2_with fail
 refine (HNEW.out _).mono ?_
 rintro e w3 ⟨v, rfl, hr, hb⟩
 obtain ⟨g, cap, hv, hg, hcap, hrow⟩ := RowG.of_own hr (by simpa using hpos)
 rw [List.length_range] at hv
 subst hv
 have hsz := HB2.out.size
 have HB3 := Aside0.mk (HB2.out.trans (hb.mono hsz))
 have HX3 := Aside0.mk ((hb.block w.heap.size (blk_lt HX2.out)).trans HX2.out)
 have HR3 := Aside0.mk hrow
 have hgl : w.heap.size < g := by have := blk_lt HX2.out; omega
 clear hb hr hrow x0 hsz hg HX2 HB2
 go_wp2
 obtain ⟨K0, hK0⟩ : ∃ K0, K0 = total (List.range n) + 1 := ⟨_, rfl⟩
 have HK0 := Aside0.mk hK0
 clear hK0
 go_loopg [7] K0 (fun kq v wr => ∃ (l : List Nat) (ch : Bool), v = .bool ch ∧ Aside0 (Good n (EP n es) l) ∧ Aside0 (total l + (if ch = true then 1 else 0) ≤ kq) ∧ Aside0 (ch = false → l = joinAll (List.range n) es) ∧ Aside0 (RowG wr g cap l) ∧ Aside0 (wr.heap[w.heap.size]? = some (.cells #[.int .i64 (n : Int), .slice A es.length c] 24 (0, 0))) ∧ Aside0 (Below w.heap.size w wr))
 case atStart => exact ⟨List.range n, true, rfl, ⟨Good.range n _⟩, ⟨by rw [HK0.out]; simp⟩, ⟨by simp⟩, HR3, HX3, HB3⟩
 case round =>
  clear HR3 HX3 HB3
  obtain ⟨l, ch, rfl, HG, HT, HD, HR, HX, HB⟩ := hrel
  have x0 : wr.cell? ⟨w.heap.size, 0, none⟩ = some (.int .i64 (n : Int)) := (blk_cell HX.out 0).trans rfl
  have x1 : wr.cell? ⟨w.heap.size, 1, none⟩ = some (.slice A es.length c) := (blk_cell HX.out 1).trans rfl
  cases ch with
  | false =>
   have hd := HD.out rfl
   have HJ := Aside0.mk hd
   have mk1 := print_make (P := Try.prog) 32 3 .i64 8 Try.underlying32 info_int (by decide) n (by omega)
   rw [made_nv, ← numRow_zero l] at mk1
   have hgk : g < wr.heap.size := HR.out.lt
   clear hd HD HT x1
   go_wp2
   clear mk1 x0
   have HO1 : Aside0 (RowAt (wr.alloc (.cells (nv (numRow l n 0)) 3 (0, 0))) wr.heap.size (numRow l n 0)) := ⟨heap_last _ _⟩
   have HR1 : Aside0 (RowG (wr.alloc (.cells (nv (numRow l n 0)) 3 (0, 0))) g cap l) := ⟨HR.out.frame (Below.heap_alloc _ _ _ hgk)⟩
   have HX1 : Aside0 ((wr.alloc (.cells (nv (numRow l n 0)) 3 (0, 0))).heap[w.heap.size]? = some (.cells #[.int .i64 (n : Int), .slice A es.length c] 24 (0, 0))) := ⟨heap_old HX.out _⟩
   have HB1 : Aside0 (Below w.heap.size w (wr.alloc (.cells (nv (numRow l n 0)) 3 (0, 0)))) := ⟨HB.out.alloc HB.out.size _⟩
   have hbo := HB.out.size
   generalize wr.alloc (.cells (nv (numRow l n 0)) 3 (0, 0)) = w1 at HO1 HR1 HX1 HB1 ⊢
   obtain ⟨bo, hbo2⟩ : ∃ b, b = wr.heap.size := ⟨_, rfl⟩
   rw [← hbo2] at HO1 hbo hgk ⊢
   clear HR HX HB hbo2
   go_loopw [12, 13] (fun cv v wq => ∃ i : Nat, v = .int .i64 (i : Int) ∧ i ≤ n ∧ cv = .int .i64 (((numTo l i).2 : Nat) : Int) ∧ Aside0 (RowAt wq bo (numRow l n i)) ∧ Aside0 (RowG wq g cap l) ∧ Aside0 (wq.heap[w.heap.size]? = some (.cells #[.int .i64 (n : Int), .slice A es.length c] 24 (0, 0))) ∧ Aside0 (Below w.heap.size w wq)) (fun _ v _ => n - (intOf v).toNat)
   case atStart => exact ⟨0, rfl, by omega, rfl, HO1, HR1, HX1, HB1⟩
   case round =>
    clear HO1 HR1 HX1 HB1
    obtain ⟨i, rfl, hi, rfl, HO, HR, HX, HB⟩ := hrel
    have x0 : wr.cell? ⟨w.heap.size, 0, none⟩ = some (.int .i64 (n : Int)) := (blk_cell HX.out 0).trans rfl
    have HN := Aside0.mk (numRow_length l hi)
    have HL := Aside0.mk HG.out.1
    have hcl := numTo_le l i
    by_cases hlt : i < n
    ·have c0 := HR.out.cell (i := i) (by rw [HL.out]; exact hlt)
     have c1 := nv_cell HO.out (i := i) (by rw [HN.out]; exact hlt)
     have f1 := blk_free HO.out i
     have hle := HG.out.2.1 i hlt
     have hmx : gt l i < n := by omega
     have c2 := nv_cell HO.out (i := gt l i) (by rw [HN.out]; exact hmx)
     by_cases hold : gt l i < i
     ·have ht : (((gt l i : Nat) : Int) == (i : Int)) = false := by simp only [beq_eq_false_iff_ne]; omega
      go_wp2
      go_roundw
      case rel =>
       refine ⟨i + 1, by go_num, by omega, by rw [numTo_old hold], ⟨?_⟩, ⟨HR.out.frame (Below.heap_setCell _ _ _ _ (by simp; omega))⟩, ⟨heap_setCell_ne HX.out (by omega)⟩, ⟨HB.out.setCell (by simpa using hbo) _⟩⟩
       have h3 : RowAt _ _ _ := blk_set_nv (i := i) (x := gt (numRow l n i) (gt l i)) HO.out
       rw [numRow_old l hlt hold] at h3
       exact h3
      case measure => simp [intOf]; omega
     ·have ht : (((gt l i : Nat) : Int) == (i : Int)) = true := by simp only [beq_iff_eq]; omega
      go_wp2
      go_roundw
      case rel =>
       refine ⟨i + 1, by go_num, by omega, by rw [numTo_new hold]; go_num, ⟨?_⟩, ⟨HR.out.frame (Below.heap_setCell _ _ _ _ (by simp; omega))⟩, ⟨heap_setCell_ne HX.out (by omega)⟩, ⟨HB.out.setCell (by simpa using hbo) _⟩⟩
       have h3 : RowAt _ _ _ := blk_set_nv (i := i) (x := (numTo l i).2) HO.out
       rw [numRow_new l hlt hold] at h3
       exact h3
      case measure => simp [intOf]; omega
    ·obtain rfl : i = n := by omega
     go_wp2
     go_ret3
     have h3 := HO.out
     rw [numRow_self] at h3
     rw [← HJ.out]
     exact ⟨bo, rfl, hbo, h3, HB.out⟩
  | true =>
   have HT1 : Aside0 (total l + 1 ≤ gk) := ⟨by have := HT.out; simpa using this⟩
   clear HT HD
   obtain ⟨wo, hwo⟩ : ∃ wo : World, wo = wr := ⟨_, rfl⟩
   have HG0 := HG
   go_wp2
   go_loopw [7, 8] (fun cv v wq => ∃ (i : Nat) (l' : List Nat) (ch : Bool), v = .int .i64 (i : Int) ∧ cv = .bool ch ∧ i ≤ es.length ∧ Aside0 (Good n (EP n es) l') ∧ Aside0 (total l' + (if ch = true then 1 else 0) ≤ total l) ∧ Aside0 (ch = false → ∀ j, j < i → gt l' (pe es j).1.toNat = gt l' (pe es j).2.toNat) ∧ Aside0 (RowG wq g cap l') ∧ Aside0 (wq.heap[w.heap.size]? = some (.cells #[.int .i64 (n : Int), .slice A es.length c] 24 (0, 0))) ∧ Aside0 (Below w.heap.size w wq)) (fun _ v _ => es.length - (intOf v).toNat)
   case atStart => exact ⟨0, l, false, rfl, rfl, by omega, HG, ⟨by simp⟩, ⟨fun _ j hj => absurd hj (by omega)⟩, HR, HX, HB⟩
   case round =>
    clear HG HR HX HB x0 x1
    obtain ⟨i, l', ch, rfl, rfl, hi, HG, HT, HS, HR, HX, HB⟩ := hrel
    have x1 : wr.cell? ⟨w.heap.size, 1, none⟩ = some (.slice A es.length c) := (blk_cell HX.out 1).trans rfl
    by_cases hlt : i < es.length
    ·obtain ⟨ad, eA, hc1, hc2⟩ := (HE.out.below HB.out) i hlt
     subst eA
     obtain ⟨a1, a2, b1, b2⟩ := HIN.out i hlt
     obtain ⟨u, hu⟩ := Int.eq_ofNat_of_zero_le a1
     obtain ⟨v, hv⟩ := Int.eq_ofNat_of_zero_le b1
     have HU := Aside0.mk hu
     have HVv := Aside0.mk hv
     rw [hu] at hc1 a2
     rw [hv] at hc2 b2
     have hun : u < n := by omega
     have hvn : v < n := by omega
     clear a1 a2 b1 b2 hu hv
     have HL := Aside0.mk HG.out.1
     have hcu := HR.out.cell (i := u) (by rw [HL.out]; exact hun)
     have hcv := HR.out.cell (i := v) (by rw [HL.out]; exact hvn)
     have hfu := HR.out.free u
     have hfv := HR.out.free v
     have CE : Aside0 (Conn (EP n es) u v) := ⟨.one ⟨hun, hvn, by rw [← HU.out, ← HVv.out]; unfold pe; rw [List.getD_eq_getElem?_getD, List.getElem?_eq_getElem hlt]; exact List.getElem_mem hlt⟩⟩
     rcases Nat.lt_trichotomy (gt l' u) (gt l' v) with hlo | heq | hhi
     ·have hd1 : decide (gt l' v < gt l' u) = false := decide_eq_false (by omega)
      have hd2 : decide (gt l' u < gt l' v) = true := decide_eq_true (by omega)
      go_wp2
      repeat (go_quiet (fail); try go_wp2)
      go_roundw
      case rel =>
       refine ⟨i + 1, l'.set v (gt l' u), true, by go_num, rfl, by omega, ⟨HG.out.set hvn hun CE.out.symm hlo⟩, ⟨?_⟩, ⟨fun e => by cases e⟩, ⟨(HR.out.set v (gt l' u) (by rw [HL.out]; exact hvn)).frame rfl⟩, ⟨heap_setCell_ne HX.out (by omega)⟩, ⟨by first | exact pw_below_drewN (HB.out.setCell (p := ⟨g, v, none⟩) (Nat.le_of_lt hgl) _) _ | exact (HB.out.setCell (p := ⟨g, v, none⟩) (Nat.le_of_lt hgl) _).drew | exact pw_below_drewN ((pw_below_drewN HB.out _).setCell (p := ⟨g, u, none⟩) (Nat.le_of_lt hgl) _) _⟩⟩
       have h1 := total_set (l := l') (i := v) (x := gt l' u) (by rw [HL.out]; exact hvn) hlo
       have h2 := HT.out
       simp only [if_true]; omega
      case measure => simp [intOf]; omega
     ·have hd1 : decide (gt l' v < gt l' u) = false := decide_eq_false (by omega)
      have hd2 : decide (gt l' u < gt l' v) = false := decide_eq_false (by omega)
      have HEQ := Aside0.mk heq
      clear heq
      go_wp2
      repeat (go_quiet (fail); try go_wp2)
      go_roundw
      case rel =>
       refine ⟨i + 1, l', ch, by go_num, rfl, by omega, HG, HT, ⟨fun e j hj => ?_⟩, ⟨HR.out.frame rfl⟩, ⟨HX.out⟩, ⟨by first | exact pw_below_drewN HB.out _ | exact HB.out.drew⟩⟩
       rcases Nat.lt_succ_iff_lt_or_eq.1 hj with h | rfl
       ·exact HS.out e j h
       ·rw [HU.out, HVv.out]; exact HEQ.out
      case measure => simp [intOf]; omega
     ·have hd1 : decide (gt l' v < gt l' u) = true := decide_eq_true (by omega)
      have hd2 : decide (gt l' u < gt l' v) = false := decide_eq_false (by omega)
      have hne : u ≠ v := by intro e; subst e; omega
      have HR2 := Aside0.mk (HR.out.set u (gt l' v) (by rw [HL.out]; exact hun))
      have k1 := HR2.out.cell (i := u) (by rw [List.length_set, HL.out]; exact hun)
      have k2 := HR2.out.cell (i := v) (by rw [List.length_set, HL.out]; exact hvn)
      rw [getD_set, if_pos ⟨rfl, by rw [HL.out]; exact hun⟩] at k1
      rw [getD_set, if_neg (by simp [hne])] at k2
      have hd3 : decide (gt l' v < gt l' v) = false := decide_eq_false (by omega)
      go_wp2
      repeat (go_quiet (fail); try go_wp2)
      go_roundw
      case rel =>
       refine ⟨i + 1, l'.set u (gt l' v), true, by go_num, rfl, by omega, ⟨HG.out.set hun hvn CE.out hhi⟩, ⟨?_⟩, ⟨fun e => by cases e⟩, ⟨(HR.out.set u (gt l' v) (by rw [HL.out]; exact hun)).frame rfl⟩, ⟨heap_setCell_ne HX.out (by omega)⟩, ⟨by first | exact pw_below_drewN (HB.out.setCell (p := ⟨g, u, none⟩) (Nat.le_of_lt hgl) _) _ | exact (HB.out.setCell (p := ⟨g, u, none⟩) (Nat.le_of_lt hgl) _).drew | exact pw_below_drewN ((pw_below_drewN HB.out _).setCell (p := ⟨g, u, none⟩) (Nat.le_of_lt hgl) _) _⟩⟩
       have h1 := total_set (l := l') (i := u) (x := gt l' v) (by rw [HL.out]; exact hun) hhi
       have h2 := HT.out
       simp only [if_true]; omega
      case measure => simp [intOf]; omega
    ·obtain rfl : i = es.length := by omega
     go_wp2
     repeat (go_quiet (fail); try go_wp2)
     have hgk1 := HT1.out
     go_roundg (gk - 1)
     case measure => omega
     case rel =>
      refine ⟨l', ch, rfl, HG, ⟨by have := HT.out; omega⟩, ⟨fun e => HG.out.done (fun a b hab => ?_)⟩, HR, HX, HB⟩
      obtain ⟨ha, hb, hm⟩ := hab
      obtain ⟨j, hj, hje⟩ := List.getElem_of_mem hm
      have h3 := HS.out e j hj
      have h4 : pe es j = ((a : Int), (b : Int)) := by unfold pe; rw [List.getD_eq_getElem?_getD, List.getElem?_eq_getElem hj]; exact hje
      rw [h4] at h3
      simpa using h3
set_option maxHeartbeats 1000000 in
set_option maxRecDepth 100000 in
theorem refOf_zero (A : Option Addr) (c : Nat) (w : World) (hv : RefYes 0 A 0 c w) (hnew : RefNew 0) :
  Calls Try.prog 48 #[.agg #[.int .i64 0, .slice A 0 c]] w fun e w' => ∃ bo, e = .returned (.tuple #[.slice (some ⟨bo, 0, none⟩) 0 0, .int .i64 0, .int .i64 0]) ∧ w.heap.size ≤ bo ∧ RowAt w' bo [] ∧ Below w.heap.size w w' := by
 have B0 := (Below.refl w.heap.size w).alloc (Nat.le_refl _) (.cells #[.int .i64 0, .slice A 0 c] 24 (0, 0))
 have HV := Aside0.mk (hv _ B0)
 have HB := Aside0.mk B0
 have HX := Aside0.mk (heap_last w (.cells #[.int .i64 0, .slice A 0 c] 24 (0, 0)))
 have HNEW := Aside0.mk hnew
 clear hv B0 hnew
 go_enter Try.func48, Try.ntmps48
 go_wp2_with fail
 refine (HV.out).mono ?_
 rintro e w2 ⟨rfl, hb⟩
 have HB2 := Aside0.mk (HB.out.trans (hb.mono (by simp)))
 have HX2 := Aside0.mk ((hb.block w.heap.size (by simp)).trans HX.out)
 clear hb HB HX HV
 have x0 : w2.cell? ⟨w.heap.size, 0, none⟩ = some (.int .i64 0) := (blk_cell HX2.out 0).trans rfl
 go_wp2_with fail
 refine (HNEW.out _).mono ?_
 rintro e w3 ⟨v, rfl, hr, hb⟩
 obtain ⟨A3, c3, hv⟩ := Kd.R_slice hr
 subst hv
 have hsz := HB2.out.size
 have HB3 := Aside0.mk (HB2.out.trans (hb.mono hsz))
 have HX3 := Aside0.mk ((hb.block w.heap.size (blk_lt HX2.out)).trans HX2.out)
 clear hb hr x0 hsz HX2 HB2
 go_wp2
 go_loopg [7] 1 (fun kq v wr => ∃ (ch : Bool), v = .bool ch ∧ Aside0 ((if ch = true then 1 else 0) ≤ kq) ∧ Aside0 (wr.heap[w.heap.size]? = some (.cells #[.int .i64 0, .slice A 0 c] 24 (0, 0))) ∧ Aside0 (Below w.heap.size w wr))
 case atStart => exact ⟨true, rfl, ⟨by simp⟩, HX3, HB3⟩
 case round =>
  clear HX3 HB3
  obtain ⟨ch, rfl, HT, HX, HB⟩ := hrel
  have x0 : wr.cell? ⟨w.heap.size, 0, none⟩ = some (.int .i64 0) := (blk_cell HX.out 0).trans rfl
  have x1 : wr.cell? ⟨w.heap.size, 1, none⟩ = some (.slice A 0 c) := (blk_cell HX.out 1).trans rfl
  cases ch with
  | false =>
   have mk1 : ∀ W : World, (Instr.makeSlice 32 (.int .i64 0) (.int .i64 0)).run Try.prog W = .ok (.slice (some ⟨W.heap.size, 0, none⟩) 0 0) (W.alloc (.cells (nv []) 3 (0, 0))) := by
    have h := print_make (P := Try.prog) 32 3 .i64 8 Try.underlying32 info_int (by decide) 0 (by omega)
    rw [made_nv] at h
    exact h
   go_wp2
   refine wp_loop_rounds 1 ?_
   rw [rounds_succ]
   have x2 := World.cell?_alloc_past (w := wr) (.cells (nv []) 3 (0, 0)) w.heap.size 0 (blk_lt HX.out)
   rw [x0] at x2
   go_wp2
   go_ret3
   exact ⟨wr.heap.size, rfl, HB.out.size, heap_last _ _, HB.out.alloc HB.out.size _⟩
  | true =>
   have HT1 : Aside0 (1 ≤ gk) := ⟨by have := HT.out; simpa using this⟩
   clear HT
   go_wp2
   refine wp_loop_rounds 1 ?_
   rw [rounds_succ]
   go_wp2
   have hgk1 := HT1.out
   go_roundg (gk - 1)
   case measure => omega
   case rel => exact ⟨false, rfl, ⟨by simp⟩, HX, HB⟩
end Go.Proofs.Yteeihjpnhjnknaa.Sets
