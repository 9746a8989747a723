/- DERIVED. Texts of this seat, one behind the other: lemmas and walks that the statement CanonNames needs. No condition. -/
import Derived.Test.YteeihjpnhjnknaaCCanonNamesh
import Derived.Test.YteeihjpnhjnknaaCCanonNamesg
namespace Go.Proofs.Yteeihjpnhjnknaa.Rot
open Go.RowKit Go.Proofs.YteeihjpnhjnknaaW.PrintWords Go.Proofs.YteeihjpnhjnknaaW.PrintLast Go.Proofs.YteeihjpnhjnknaaW.PrintMore Go.Proofs.Yteeihjpnhjnknaa.GAll Go.Proofs.Yteeihjpnhjnknaa.Mem Go.Proofs.Yteeihjpnhjnknaa.Seen Go.Proofs.Yteeihjpnhjnknaa.Mk
set_option linter.unusedVariables false
set_option linter.unusedSimpArgs false
theorem renamed_at (k N : Nat) (A : Option Addr) (c : Nat) (l : List Ed) (A1 : Option Addr) (c1 : Nat) (r : List (List Int)) (Ao : Option Addr) (co : Nat) (order : List Int) (cd : List Int) (t : Int) (l2 : List Ed) (r2 : List (List Int)) (T : List Int) (q : List (List Int)) (w : World) (h : Named k N l r order cd t l2 r2 T q)
  (hl : Kd.C k89 w A l.length l) (hc : l.length ≤ c) (hr : Kd.C KR w A1 r.length r) (hc1 : r.length ≤ c1) (ho : Kd.C (Kd.int .i64) w Ao order.length order) (hob : order.length ≤ 20000000000000) :
  Calls Try.prog 26 #[.agg #[.int .i64 (N : Int), .slice A l.length c, .slice A1 r.length c1], .slice Ao order.length co] w fun e w' => ∃ (Al Ar : Option Addr) (cl cr : Nat) (vn : Value), e = .returned (.tuple #[.agg #[.int .i64 (N : Int), .slice Al l2.length cl, .slice Ar r2.length cr], vn]) ∧ l2.length ≤ cl ∧ r2.length ≤ cr ∧ Kd.C k89 w' Al l2.length l2 ∧ Kd.C KR w' Ar r2.length r2 ∧ Below w.heap.size w w' := by
 obtain ⟨h1, h2, h3, h4, h5, h6, _⟩ := h
 subst h4
 exact renamed_calls k N A c l A1 c1 r Ao co order w hl hc hr hc1 ho hob h1 h2 h3 r2 h5 h6
theorem below_drewN' {k : Nat} {a b : World} (h : Below k a b) (m : Nat) : Below k a (b.drewN m) := ⟨h.os, h.tape, h.output, h.size, h.block⟩
theorem of2_calls (k n : Nat) (Ag : Option Addr) (cg : Nat) (es : List Ed) (Aa : Option Addr) (ca : Nat) (rows r' : List (List Int)) (w : World) (hn : rows.length = n) (hg : Kd.C k89 w Ag es.length es) (hc : es.length ≤ cg) (h : Kd.C KR w Aa rows.length rows) (hca : rows.length ≤ ca) (hk : tangramref11_Of.f k (n : Int) es rows = some (r', 0, 0)) :
  Calls Try.prog 28 #[.agg #[.int .i64 (n : Int), .slice Ag es.length cg], .slice Aa n ca] w fun e w' => ∃ v, e = .returned (.tuple #[v, .int .i64 0, .int .i64 0]) ∧ Kd.S KR 32 w' w.heap.size (fun _ => True) v r' ∧ Below w.heap.size w w' := by
 subst hn
 exact tangramref11_Of.calls k (rows.length : Int) Ag cg es Aa ca rows r' 0 0 w hg hc h hca hk
set_option maxHeartbeats 8000000 in
set_option maxRecDepth 100000 in
theorem names_walk (k : Nat) (n : Int) (A : Option Addr) (c : Nat) (l : List Ed) (A1 : Option Addr) (c1 : Nat) (r : List (List Int)) (Ao : Option Addr) (co : Nat) (order : List Int) (w : World) (hr : Kd.C k89 w A l.length l) (hc : l.length ≤ c) (hr1 : Kd.C (Kd.slice 3 (Kd.int .i64)) w A1 r.length r) (hc1 : r.length ≤ c1) (hro : Kd.C (Kd.int .i64) w Ao order.length order) (hob : order.length ≤ 20000000000000)
  (cd : List Int) (e : Int) (h1 : tangramlaw21_copied.f k n l r = some (n, l, r)) (h2 : canon_Code.f k n l r = some (cd, e)) (hbad : e ≠ 0 → cd = [])
  (hok : e = 0 → ∃ (N : Nat) (t : Int) (l2 : List Ed) (r2 : List (List Int)) (T : List Int) (q : List (List Int)), n = N ∧ Named k N l r order cd t l2 r2 T q) :
  Calls Try.prog 8 #[.agg #[.int .i64 n, .slice A l.length c], .slice A1 r.length c1, .slice Ao order.length co] w fun e w' => e = .returned (.bool true) ∧ Below w.heap.size w w' := by
 have HX := Aside0.mk (heap_last w (.cells #[.int .i64 n, .slice A l.length c] 24 (0, 0)))
 have HB : Aside0 (Below w.heap.size w (w.alloc (.cells #[.int .i64 n, .slice A l.length c] 24 (0, 0)))) := ⟨(Below.refl _ _).alloc (Nat.le_refl _) _⟩
 have HR := Aside0.mk hr
 have HR1 := Aside0.mk hr1
 have HRO := Aside0.mk hro
 have HOB := Aside0.mk hob
 have H1 := Aside0.mk h1
 have H2 := Aside0.mk h2
 have HBAD := Aside0.mk hbad
 have HOK := Aside0.mk hok
 have HCC := Aside0.mk hc
 have HCC1 := Aside0.mk hc1
 clear hr hr1 hro hob h1 h2 hc hc1 hbad hok
 go_enter Try.func8, Try.ntmps8
 go_wp2_with fail
 obtain ⟨b1, hb1⟩ : ∃ b1, b1 = w.heap.size := ⟨_, rfl⟩
 rw [← hb1] at HX ⊢
 have HBB := Aside0.mk hb1
 clear hb1
 refine (tangramlaw21_wakes.calls true _ rfl).mono ?_
 rintro e1 w1 ⟨rfl, hb⟩
 have HB1 := Aside0.mk (HB.out.trans (hb.mono HB.out.size))
 have HX1 := Aside0.mk ((hb.block _ (lt_of HX.out)).trans HX.out)
 clear hb HB HX
 have x0 : w1.cell? ⟨b1, 0, none⟩ = some (.int .i64 n) := heap_cell HX1.out rfl
 have x1 : w1.cell? ⟨b1, 1, none⟩ = some (.slice A l.length c) := heap_cell HX1.out rfl
 go_wp2_with fail
 clear x0 x1
 refine (tangramlaw21_copied.calls k n A c l A1 c1 r n l r w1 (Kd.C_below HR.out HB1.out) HCC.out (Kd.C_below HR1.out HB1.out) HCC1.out H1.out).mono ?_
 rintro e2 w2 ⟨v1, v2, rfl, hL, hS, hb⟩
 obtain ⟨A2, c2, rfl, hc2, hL⟩ := Kd.R_reads hL
 obtain ⟨A3, c3, rfl, hc3, hS⟩ := Kd.S_reads hS
 have HC2 := Aside0.mk hc2
 have HC3 := Aside0.mk hc3
 have HB2 := Aside0.mk (HB1.out.trans (hb.mono HB1.out.size))
 have HX2 := Aside0.mk ((hb.block _ (lt_of HX1.out)).trans HX1.out)
 clear hb hc2 hc3 HB1 HX1
 obtain ⟨w3, hw3⟩ : ∃ w3, w3 = w2.alloc (.cells #[.int .i64 n, .slice A2 l.length c2] 24 (0, 0)) := ⟨_, rfl⟩
 have hb : Below w2.heap.size w2 w3 := by rw [hw3]; exact (Below.refl _ _).alloc (Nat.le_refl _) _
 obtain ⟨b2, hb2⟩ : ∃ b2, b2 = w2.heap.size := ⟨_, rfl⟩
 have HB := Aside0.mk (HB2.out.trans (hb.mono HB2.out.size))
 have HX := Aside0.mk ((hb.block _ (lt_of HX2.out)).trans HX2.out)
 have HY : Aside0 (w3.heap[b2]? = some (.cells #[.int .i64 n, .slice A2 l.length c2] 24 (0, 0))) := ⟨by rw [hw3, hb2]; exact heap_last _ _⟩
 have HL := Aside0.mk (Kd.C_below hL hb)
 have HS := Aside0.mk (Kd.C_below hS hb)
 clear hb HB2 HX2 hL hS
 go_upto_region 4 with (fail)
 rw [← hb2, ← hw3]
 clear hb2 hw3
 have y0 : w3.cell? ⟨b2, 0, none⟩ = some (.int .i64 n) := heap_cell HY.out rfl
 have y1 : w3.cell? ⟨b2, 1, none⟩ = some (.slice A2 l.length c2) := heap_cell HY.out rfl
 go_wp2_with fail
 clear y0 y1
 refine (canon_Code.calls k n A2 c2 l A3 c3 r cd e w3 HL.out HC2.out HS.out HC3.out H2.out).mono ?_
 rintro e' w4 ⟨v4, rfl, hR, hb⟩
 obtain ⟨A4, c4, rfl, hc4, hR⟩ := Kd.R_reads hR
 have HC4 := Aside0.mk hc4
 have HV := Aside0.mk hR
 replace HB := Aside0.mk (HB.out.trans (hb.mono HB.out.size))
 replace HX := Aside0.mk ((hb.block _ (lt_of HX.out)).trans HX.out)
 replace HY := Aside0.mk ((hb.block _ (lt_of HY.out)).trans HY.out)
 replace HL := Aside0.mk (Kd.C_below HL.out hb)
 replace HS := Aside0.mk (Kd.C_below HS.out hb)
 clear hb hR hc4 H1 H2
 by_cases he : e = 0
 rotate_left
 ·have t1 : (e != 0) = true := bne_iff_ne.2 he
  obtain rfl := HBAD.out he
  clear he HBAD HOK
  go_wp2_with fail
  go_ret
  exact ⟨by simp, HB.out⟩
 have t1 : (e != 0) = false := bne_eq_false_iff_eq.2 he
 obtain ⟨N, t, l2, r2, T, q, rfl, hA⟩ := HOK.out he
 have HAN := Aside0.mk hA
 clear he HBAD HOK hA
 have x0 : w4.cell? ⟨b1, 0, none⟩ = some (.int .i64 (N : Int)) := heap_cell HX.out rfl
 have x1 : w4.cell? ⟨b1, 1, none⟩ = some (.slice A l.length c) := heap_cell HX.out rfl
 go_wp2_with fail
 clear x0 x1 t1
 refine (tangramref21_Fault.calls k (N : Int) A c l A1 c1 r 0 w4 (Kd.C_below HR.out HB.out) HCC.out (Kd.C_below HR1.out HB.out) HCC1.out HAN.out.fault).mono ?_
 rintro e' w5 ⟨rfl, hb⟩
 replace HB := Aside0.mk (HB.out.trans (hb.mono HB.out.size))
 replace HX := Aside0.mk ((hb.block _ (lt_of HX.out)).trans HX.out)
 replace HY := Aside0.mk ((hb.block _ (lt_of HY.out)).trans HY.out)
 replace HL := Aside0.mk (Kd.C_below HL.out hb)
 replace HS := Aside0.mk (Kd.C_below HS.out hb)
 replace HV := Aside0.mk (Kd.C_below HV.out hb)
 clear hb
 have x0 : w5.cell? ⟨b1, 0, none⟩ = some (.int .i64 (N : Int)) := heap_cell HX.out rfl
 have x1 : w5.cell? ⟨b1, 1, none⟩ = some (.slice A l.length c) := heap_cell HX.out rfl
 go_wp2_with fail
 clear x0 x1
 refine (renamed_at k N A c l A1 c1 r Ao co order cd t l2 r2 T q w5 HAN.out (Kd.C_below HR.out HB.out) HCC.out (Kd.C_below HR1.out HB.out) HCC1.out (Kd.C_below HRO.out HB.out) HOB.out).mono ?_
 rintro e' w6 ⟨Al, Ar, cl, cr, vn, rfl, hcl, hcr, hG, hR2, hb⟩
 replace HB := Aside0.mk (HB.out.trans (hb.mono HB.out.size))
 replace HX := Aside0.mk ((hb.block _ (lt_of HX.out)).trans HX.out)
 replace HY := Aside0.mk ((hb.block _ (lt_of HY.out)).trans HY.out)
 replace HL := Aside0.mk (Kd.C_below HL.out hb)
 replace HS := Aside0.mk (Kd.C_below HS.out hb)
 replace HV := Aside0.mk (Kd.C_below HV.out hb)
 have HG := Aside0.mk hG
 have HR2 := Aside0.mk hR2
 have HCL := Aside0.mk hcl
 have HCR := Aside0.mk hcr
 clear hb hG hR2 hcl hcr
 obtain ⟨w7, hw7⟩ : ∃ w7, w7 = w6.alloc (.cells #[.int .i64 (N : Int), .slice Al l2.length cl, .slice Ar r2.length cr] 31 (0, 0)) := ⟨_, rfl⟩
 have hb : Below w6.heap.size w6 w7 := by rw [hw7]; exact (Below.refl _ _).alloc (Nat.le_refl _) _
 obtain ⟨b3, hb3⟩ : ∃ b3, b3 = w6.heap.size := ⟨_, rfl⟩
 have HZ0 : Aside0 (w7.heap[b3]? = some (.cells #[.int .i64 (N : Int), .slice Al l2.length cl, .slice Ar r2.length cr] 31 (0, 0))) := ⟨by rw [hw7, hb3]; exact heap_last _ _⟩
 replace HB := Aside0.mk (HB.out.trans (hb.mono HB.out.size))
 replace HX := Aside0.mk ((hb.block _ (lt_of HX.out)).trans HX.out)
 replace HY := Aside0.mk ((hb.block _ (lt_of HY.out)).trans HY.out)
 replace HL := Aside0.mk (Kd.C_below HL.out hb)
 replace HS := Aside0.mk (Kd.C_below HS.out hb)
 replace HV := Aside0.mk (Kd.C_below HV.out hb)
 replace HG := Aside0.mk (Kd.C_below HG.out hb)
 replace HR2 := Aside0.mk (Kd.C_below HR2.out hb)
 have HZ := HZ0
 clear hb HZ0
 go_upto_region 10 with (fail)
 rw [← hb3, ← hw7]
 clear hb3 hw7
 have z0 : w7.cell? ⟨b3, 0, none⟩ = some (.int .i64 (N : Int)) := heap_cell HZ.out rfl
 have z1 : w7.cell? ⟨b3, 1, none⟩ = some (.slice Al l2.length cl) := heap_cell HZ.out rfl
 have z2 : w7.cell? ⟨b3, 2, none⟩ = some (.slice Ar r2.length cr) := heap_cell HZ.out rfl
 go_wp2_with fail
 clear z0 z1 z2
 refine (tangramlaw21_copied.calls k (N : Int) Al cl l2 Ar cr r2 (N : Int) l2 r2 w7 HG.out HCL.out HR2.out HCR.out HAN.out.copy).mono ?_
 rintro e' w8 ⟨v1, v2, rfl, hL, hSS, hb⟩
 obtain ⟨A5, c5, rfl, hc5, hL⟩ := Kd.R_reads hL
 obtain ⟨A6, c6, rfl, hc6, hSS⟩ := Kd.S_reads hSS
 have HC5 := Aside0.mk hc5
 have HC6 := Aside0.mk hc6
 replace HB := Aside0.mk (HB.out.trans (hb.mono HB.out.size))
 replace HX := Aside0.mk ((hb.block _ (lt_of HX.out)).trans HX.out)
 replace HY := Aside0.mk ((hb.block _ (lt_of HY.out)).trans HY.out)
 replace HL := Aside0.mk (Kd.C_below HL.out hb)
 replace HS := Aside0.mk (Kd.C_below HS.out hb)
 replace HV := Aside0.mk (Kd.C_below HV.out hb)
 replace HZ := Aside0.mk ((hb.block _ (lt_of HZ.out)).trans HZ.out)
 replace HG := Aside0.mk (Kd.C_below HG.out hb)
 replace HR2 := Aside0.mk (Kd.C_below HR2.out hb)
 have HG5 := Aside0.mk hL
 have HR5 := Aside0.mk hSS
 clear hb hc5 hc6 hL hSS
 obtain ⟨w9, hw9⟩ : ∃ w9, w9 = w8.alloc (.cells #[.int .i64 (N : Int), .slice A5 l2.length c5] 24 (0, 0)) := ⟨_, rfl⟩
 have hb : Below w8.heap.size w8 w9 := by rw [hw9]; exact (Below.refl _ _).alloc (Nat.le_refl _) _
 obtain ⟨b4, hb4⟩ : ∃ b4, b4 = w8.heap.size := ⟨_, rfl⟩
 have HU : Aside0 (w9.heap[b4]? = some (.cells #[.int .i64 (N : Int), .slice A5 l2.length c5] 24 (0, 0))) := ⟨by rw [hw9, hb4]; exact heap_last _ _⟩
 replace HB := Aside0.mk (HB.out.trans (hb.mono HB.out.size))
 replace HX := Aside0.mk ((hb.block _ (lt_of HX.out)).trans HX.out)
 replace HY := Aside0.mk ((hb.block _ (lt_of HY.out)).trans HY.out)
 replace HL := Aside0.mk (Kd.C_below HL.out hb)
 replace HS := Aside0.mk (Kd.C_below HS.out hb)
 replace HV := Aside0.mk (Kd.C_below HV.out hb)
 replace HZ := Aside0.mk ((hb.block _ (lt_of HZ.out)).trans HZ.out)
 replace HG := Aside0.mk (Kd.C_below HG.out hb)
 replace HR2 := Aside0.mk (Kd.C_below HR2.out hb)
 replace HG5 := Aside0.mk (Kd.C_below HG5.out hb)
 replace HR5 := Aside0.mk (Kd.C_below HR5.out hb)
 clear hb
 go_upto_region 11 with (fail)
 rw [← hb4, ← hw9]
 clear hb4 hw9
 have z0 : w9.cell? ⟨b4, 0, none⟩ = some (.int .i64 (N : Int)) := heap_cell HU.out rfl
 have z1 : w9.cell? ⟨b4, 1, none⟩ = some (.slice A5 l2.length c5) := heap_cell HU.out rfl
 go_wp2_with fail
 clear z0 z1
 refine (canon_Code.calls k (N : Int) A5 c5 l2 A6 c6 r2 cd 0 w9 HG5.out HC5.out HR5.out HC6.out HAN.out.code2).mono ?_
 rintro e' w10 ⟨v10, rfl, hR, hb⟩
 obtain ⟨A10, c10, rfl, hc10, hR⟩ := Kd.R_reads hR
 have HC10 := Aside0.mk hc10
 have HV10 := Aside0.mk hR
 replace HB := Aside0.mk (HB.out.trans (hb.mono HB.out.size))
 replace HX := Aside0.mk ((hb.block _ (lt_of HX.out)).trans HX.out)
 replace HY := Aside0.mk ((hb.block _ (lt_of HY.out)).trans HY.out)
 replace HL := Aside0.mk (Kd.C_below HL.out hb)
 replace HS := Aside0.mk (Kd.C_below HS.out hb)
 replace HV := Aside0.mk (Kd.C_below HV.out hb)
 replace HZ := Aside0.mk ((hb.block _ (lt_of HZ.out)).trans HZ.out)
 replace HG := Aside0.mk (Kd.C_below HG.out hb)
 replace HR2 := Aside0.mk (Kd.C_below HR2.out hb)
 replace HU := Aside0.mk ((hb.block _ (lt_of HU.out)).trans HU.out)
 replace HG5 := Aside0.mk (Kd.C_below HG5.out hb)
 replace HR5 := Aside0.mk (Kd.C_below HR5.out hb)
 clear hb hR hc10
 have y0 : w10.cell? ⟨b2, 0, none⟩ = some (.int .i64 (N : Int)) := heap_cell HY.out rfl
 have y1 : w10.cell? ⟨b2, 1, none⟩ = some (.slice A2 l.length c2) := heap_cell HY.out rfl
 go_wp2_with fail
 clear y0 y1
 refine (canon_Turns.calls k (N : Int) A2 c2 l A3 c3 r t 0 w10 HL.out HC2.out HS.out HC3.out HAN.out.turns).mono ?_
 rintro e' w11 ⟨rfl, hb⟩
 replace HB := Aside0.mk (HB.out.trans (hb.mono HB.out.size))
 replace HX := Aside0.mk ((hb.block _ (lt_of HX.out)).trans HX.out)
 replace HY := Aside0.mk ((hb.block _ (lt_of HY.out)).trans HY.out)
 replace HL := Aside0.mk (Kd.C_below HL.out hb)
 replace HS := Aside0.mk (Kd.C_below HS.out hb)
 replace HV := Aside0.mk (Kd.C_below HV.out hb)
 replace HZ := Aside0.mk ((hb.block _ (lt_of HZ.out)).trans HZ.out)
 replace HG := Aside0.mk (Kd.C_below HG.out hb)
 replace HR2 := Aside0.mk (Kd.C_below HR2.out hb)
 replace HU := Aside0.mk ((hb.block _ (lt_of HU.out)).trans HU.out)
 replace HG5 := Aside0.mk (Kd.C_below HG5.out hb)
 replace HR5 := Aside0.mk (Kd.C_below HR5.out hb)
 replace HV10 := Aside0.mk (Kd.C_below HV10.out hb)
 clear hb
 have z0 : w11.cell? ⟨b4, 0, none⟩ = some (.int .i64 (N : Int)) := heap_cell HU.out rfl
 have z1 : w11.cell? ⟨b4, 1, none⟩ = some (.slice A5 l2.length c5) := heap_cell HU.out rfl
 go_wp2_with fail
 clear z0 z1
 refine (canon_Turns.calls k (N : Int) A5 c5 l2 A6 c6 r2 t 0 w11 HG5.out HC5.out HR5.out HC6.out HAN.out.turns2).mono ?_
 rintro e' w12 ⟨rfl, hb⟩
 replace HB := Aside0.mk (HB.out.trans (hb.mono HB.out.size))
 replace HX := Aside0.mk ((hb.block _ (lt_of HX.out)).trans HX.out)
 replace HY := Aside0.mk ((hb.block _ (lt_of HY.out)).trans HY.out)
 replace HL := Aside0.mk (Kd.C_below HL.out hb)
 replace HS := Aside0.mk (Kd.C_below HS.out hb)
 replace HV := Aside0.mk (Kd.C_below HV.out hb)
 replace HZ := Aside0.mk ((hb.block _ (lt_of HZ.out)).trans HZ.out)
 replace HG := Aside0.mk (Kd.C_below HG.out hb)
 replace HR2 := Aside0.mk (Kd.C_below HR2.out hb)
 replace HU := Aside0.mk ((hb.block _ (lt_of HU.out)).trans HU.out)
 replace HG5 := Aside0.mk (Kd.C_below HG5.out hb)
 replace HR5 := Aside0.mk (Kd.C_below HR5.out hb)
 replace HV10 := Aside0.mk (Kd.C_below HV10.out hb)
 clear hb
 have t2 : (t != t) = false := bne_eq_false_iff_eq.2 rfl
 go_wp2_with fail
 refine (tangramref03_SameInts.calls k A4 c4 cd A10 c10 cd true w12 HV.out HC4.out HV10.out HC10.out HAN.out.ints).mono ?_
 rintro e' w13 ⟨rfl, hd⟩
 have hb := hd.below
 replace HB := Aside0.mk (HB.out.trans (hb.mono HB.out.size))
 replace HX := Aside0.mk ((hb.block _ (lt_of HX.out)).trans HX.out)
 replace HY := Aside0.mk ((hb.block _ (lt_of HY.out)).trans HY.out)
 replace HL := Aside0.mk (Kd.C_below HL.out hb)
 replace HS := Aside0.mk (Kd.C_below HS.out hb)
 replace HV := Aside0.mk (Kd.C_below HV.out hb)
 replace HZ := Aside0.mk ((hb.block _ (lt_of HZ.out)).trans HZ.out)
 replace HG := Aside0.mk (Kd.C_below HG.out hb)
 replace HR2 := Aside0.mk (Kd.C_below HR2.out hb)
 replace HU := Aside0.mk ((hb.block _ (lt_of HU.out)).trans HU.out)
 replace HG5 := Aside0.mk (Kd.C_below HG5.out hb)
 replace HR5 := Aside0.mk (Kd.C_below HR5.out hb)
 clear hb hd HV10 HC10 t2
 have y0 : w13.cell? ⟨b2, 0, none⟩ = some (.int .i64 (N : Int)) := heap_cell HY.out rfl
 have y1 : w13.cell? ⟨b2, 1, none⟩ = some (.slice A2 l.length c2) := heap_cell HY.out rfl
 have z0 : w13.cell? ⟨b4, 0, none⟩ = some (.int .i64 (N : Int)) := heap_cell HU.out rfl
 have z1 : w13.cell? ⟨b4, 1, none⟩ = some (.slice A5 l2.length c5) := heap_cell HU.out rfl
 go_wp2_with fail
 clear y0 y1 z0 z1
 refine (canon_Match.calls k (N : Int) A2 c2 l A3 c3 r (N : Int) A5 c5 l2 A6 c6 r2 T true 0 w13 HL.out HC2.out HS.out HC3.out HG5.out HC5.out HR5.out HC6.out HAN.out.mat).mono ?_
 rintro e' w14 ⟨v14, rfl, hR, hb⟩
 obtain ⟨At, ct, rfl, hct, hR⟩ := Kd.R_reads hR
 have HT := Aside0.mk hR
 replace HB := Aside0.mk (HB.out.trans (hb.mono HB.out.size))
 replace HX := Aside0.mk ((hb.block _ (lt_of HX.out)).trans HX.out)
 replace HY := Aside0.mk ((hb.block _ (lt_of HY.out)).trans HY.out)
 replace HL := Aside0.mk (Kd.C_below HL.out hb)
 replace HS := Aside0.mk (Kd.C_below HS.out hb)
 replace HV := Aside0.mk (Kd.C_below HV.out hb)
 replace HZ := Aside0.mk ((hb.block _ (lt_of HZ.out)).trans HZ.out)
 replace HG := Aside0.mk (Kd.C_below HG.out hb)
 replace HR2 := Aside0.mk (Kd.C_below HR2.out hb)
 clear hb hR hct HU HG5 HR5 HC5 HC6
 have HTL := Aside0.mk HAN.out.nm.len
 have x0 : w14.cell? ⟨b1, 0, none⟩ = some (.int .i64 (N : Int)) := heap_cell HX.out rfl
 have t3 : ((T.length : Int) != (N : Int)) = false := bne_eq_false_iff_eq.2 (by have := HTL.out; omega)
 have hnn := HAN.out.hm.good.2.1
 have mk1 := print_make_of (P := Try.prog) 25 32 (.slice none 0 0) 24 Try.underlying25 info_ints rfl (by decide) N (by omega)
 rw [made_nil] at mk1
 go_upto_region 20 with (fail)
 clear x0 mk1 t3
 obtain ⟨bo, hbo⟩ : ∃ bo, bo = w14.heap.size := ⟨_, rfl⟩
 have HG0 : Aside0 (Rows2 (w14.alloc (.cells (Array.replicate N (Value.slice none 0 0)) 32 (0, 0))) (bo + 1) bo (List.replicate N (.slice none 0 0)) (gsTo N l r T [] 0 0)) := ⟨by rw [hbo, gsTo_zero]; exact Rows2.start w14 N⟩
 have HB5 : Aside0 (Below w14.heap.size w14 (w14.alloc (.cells (Array.replicate N (Value.slice none 0 0)) 32 (0, 0)))) := ⟨(Below.refl _ _).alloc (Nat.le_refl _) _⟩
 have HBO := Aside0.mk hbo
 rw [← hbo]
 clear hbo
 generalize w14.alloc (.cells (Array.replicate N (Value.slice none 0 0)) 32 (0, 0)) = w15 at HG0 HB5 ⊢
 have HG1 : Aside0 (∃ vs, Rows2 w15 (bo + 1) bo vs (gsTo N l r T [] 0 0)) := ⟨_, HG0.out⟩
 have HRL := Aside0.mk HAN.out.hm.rot.len
 clear HG0
 go_wp2_with fail
 go_loopw [25] (fun y ws => ∃ v : Nat, y = .int .i64 (v : Int) ∧ v ≤ N ∧ Aside0 (∃ vs, Rows2 ws (bo + 1) bo vs (gsTo N l r T [] v 0)) ∧ Aside0 (Below w14.heap.size w14 ws)) (fun y _ => N - (intOf y).toNat)
 case atStart => exact ⟨0, rfl, by omega, HG1, HB5⟩
 case round =>
  clear HG1 HB5
  obtain ⟨v, rfl, hvi, HG1, HE⟩ := hrel
  have hx := (HE.out.block _ (lt_of HX.out)).trans HX.out
  have x0 : wr.cell? ⟨b1, 0, none⟩ = some (.int .i64 (N : Int)) := heap_cell hx rfl
  clear hx
  by_cases hlt : v < N
  ·have HVI := Aside0.mk hlt
   obtain ⟨u, hu, hun⟩ : ∃ u : Nat, gi T v = (u : Int) ∧ u < N := by
    have := HAN.out.nm.rng v hlt
    exact ⟨(gi T v).toNat, by omega, by omega⟩
   have HUV := Aside0.mk hu
   obtain ⟨adt, eT, f0⟩ := Kd.at_int HT.out (v : Int) (by omega) (by have := HTL.out; omega)
   subst eT
   rw [gi_rd, Int.toNat_natCast, hu] at f0
   have F0 := Aside0.mk f0
   have y0 := (HE.out.cell (cell_lt f0)).trans f0
   obtain ⟨vs, hG⟩ := HG1.out
   have hin := invT_of HAN.out.nm hlt hun hu
   have HIN := Aside0.mk hin
   have hg0 : gl (gsTo N l r T [] v 0) u = [] := by rw [gl_gsTo _ _ hun, hin, if_neg (by omega), if_pos rfl, List.take_zero]
   have ho := hG.own u (by rw [gsTo_length]; exact hun)
   rw [hg0] at ho
   obtain ⟨Av, cv, hV⟩ := own_sl ho
   have y2 := hG.cell (j := u) (by rw [gsTo_length]; exact hun)
   rw [hV] at y2
   have y3 : wr.cell? ⟨bo, u, none⟩ = some (.slice Av 0 cv) := y2
   clear y2 hV ho hg0 hin hG f0 hu
   obtain ⟨ad, D, cD, eA, f4, hcD, hrw⟩ := row_at (Kd.C_below HR1.out HB.out) (i := v) (by have := HRL.out; omega)
   subst eA
   obtain ⟨row, hrow⟩ : ∃ row, row = gl r v := ⟨_, rfl⟩
   rw [← hrow] at f4 hcD hrw
   have F4 := Aside0.mk f4
   have HROW := Aside0.mk hrow
   have HD := Aside0.mk hrw
   have HDC := Aside0.mk hcD
   have F2 : Aside0 (w14.cell? ⟨b1, 0, none⟩ = some (.int .i64 (N : Int))) := ⟨heap_cell HX.out rfl⟩
   have F3 : Aside0 (w14.cell? ⟨b1, 1, none⟩ = some (.slice A l.length c)) := ⟨heap_cell HX.out rfl⟩
   have HRB : Aside0 (row.length ≤ 8388608) := ⟨by
    obtain ⟨_, _, h3⟩ := HAN.out.hm.rows
    rw [hrow]
    exact (h3 (gl r v) (by unfold gl; rw [List.getD_eq_getElem?_getD, List.getElem?_eq_getElem (by have := HRL.out; omega)]; exact List.getElem_mem _)).1⟩
   clear f4 hcD hrow hrw
   have d0 : decide ((v : Int) < (N : Int)) = true := decide_eq_true (by omega)
   have d1 : decide ((u : Int) < 0) = false := decide_eq_false (by omega)
   have d2 : decide ((u : Int) ≥ (N : Int)) = false := decide_eq_false (by omega)
   have d2' : decide ((N : Int) ≤ (u : Int)) = false := decide_eq_false (by omega)
   have gv : (v : Int) < (T.length : Int) := by have := HTL.out; omega
   have gu : (u : Int) < (N : Int) := by omega
   go_wp2_with fail
   go_quiet (fail)
   go_wp2_with fail
   clear d0 d1 d2 d2' x0 y0 y3
   have HE2 : Aside0 (Below w14.heap.size w14 (wr.drewN nq)) := ⟨below_drewN' HE.out _⟩
   have HG2 : Aside0 (∃ vs, Rows2 (wr.drewN nq) (bo + 1) bo vs (gsTo N l r T [] v 0)) := ⟨by
    obtain ⟨vs, hG⟩ := HG1.out
    exact ⟨vs, hG.below (below_drewN' (Below.refl _ _) _)⟩⟩
   clear HG1 HE
   generalize wr.drewN nq = w16 at HE2 HG2 ⊢
   go_loopw [26] (fun y ws => ∃ j : Nat, y = .int .i64 (j : Int) ∧ j ≤ row.length ∧ Aside0 (∃ vs, Rows2 ws (bo + 1) bo vs (gsTo N l r T [] v j)) ∧ Aside0 (Below w14.heap.size w14 ws)) (fun y _ => row.length - (intOf y).toNat)
   case atStart => exact ⟨0, rfl, by omega, HG2, HE2⟩
   case round =>
    clear HG2 HE2
    obtain ⟨j, rfl, hj, HG2, HE2⟩ := hrel
    have y4 := (HE2.out.cell (cell_lt F4.out)).trans F4.out
    have hlr := HRB.out
    have gr : (v : Int) < (r.length : Int) := by have := HRL.out; have := HVI.out; omega
    by_cases hjr : j < row.length
    ·have s1 : decide ((j : Int) < (row.length : Int)) = true := decide_eq_true (by omega)
     obtain ⟨adD, eD, f5⟩ := Kd.at_int HD.out (j : Int) (by omega) (by omega)
     subst eD
     rw [gi_rd, Int.toNat_natCast] at f5
     have hjg : j < (gl r v).length := by rw [← HROW.out]; exact hjr
     obtain ⟨h, hh⟩ : ∃ h, h = gi row j := ⟨_, rfl⟩
     rw [← hh] at f5
     have F5 := Aside0.mk f5
     have a := (row_in HAN.out.hm HVI.out hjg).1
     rw [← HROW.out, ← hh] at a
     have b := (web HAN.out.hm HAN.out.hp).to a
     obtain ⟨tt, htt⟩ : ∃ tt, tt = (too (toOf l) h).toNat := ⟨_, rfl⟩
     have httn : tt < N := by omega
     have htc : too (toOf l) h = (tt : Int) := by omega
     have HTO : Aside0 (tangramref03_To.f (N : Int) l h = some (tt : Int)) := ⟨by
      have := to_half HAN.out.hm HVI.out hjg
      rw [← HROW.out, ← hh, htc] at this
      exact this⟩
     obtain ⟨adt2, eT2, f1⟩ := Kd.at_int HT.out (tt : Int) (by omega) (by have := HTL.out; omega)
     injection eT2 with eT2
     subst eT2
     rw [gi_rd, Int.toNat_natCast] at f1
     obtain ⟨y, hy⟩ : ∃ y, y = gi T tt := ⟨_, rfl⟩
     rw [← hy] at f1
     have F1 := Aside0.mk f1
     have hyv : gi (rowN l r T [] v) j = y := by
      have hs : shf [] (gl r v) = 0 := by unfold shf; rw [if_neg (by simp)]
      rw [rowN_at T [] hjg, hs, Nat.add_zero, Nat.mod_eq_of_lt hjg, ← HROW.out, ← hh, htc, Int.toNat_natCast, hy]
     have hsuc := gsTo_succ (r := r) (l := l) (order := []) HAN.out.nm HVI.out hjg hun HUV.out
     rw [hyv] at hsuc
     obtain ⟨vs, hG⟩ := HG2.out
     have HVB : Aside0 (u < (gsTo N l r T [] v j).length) := ⟨by rw [gsTo_length]; exact hun⟩
     obtain ⟨g, hrow⟩ : ∃ g, g = gl (gsTo N l r T [] v j) u := ⟨_, rfl⟩
     have ho := hG.own u HVB.out
     rw [← hrow] at ho
     obtain ⟨Av, cv, hV⟩ := own_sl ho
     have HV2 := Aside0.mk hV
     rw [hV] at ho
     have hcl := hG.cell (j := u) HVB.out
     rw [hV] at hcl
     have HRW := Aside0.mk hrow
     have HGL : Aside0 (g.length ≤ 8388608) := ⟨by
      have h4 := HRB.out
      rw [HROW.out] at h4
      rw [hrow, gl_gsTo _ _ hun, HIN.out, if_neg (by omega), if_pos rfl, List.length_take, rowN_length]
      omega⟩
     have HSUC := Aside0.mk hsuc
     have HGD : Aside0 (Rows2 wr.drew (bo + 1) bo vs (gsTo N l r T [] v j)) := ⟨hG.below ((Below.refl _ _).drew)⟩
     have HBD : Aside0 (Below w14.heap.size w14 wr.drew) := ⟨HE2.out.drew⟩
     have cz0 : wr.drew.cell? ⟨bo, u, none⟩ = some (.slice Av g.length cv) := hcl
     have HLD := Aside0.mk (Kd.C_below (Kd.C_below HR.out HB.out) HBD.out)
     have gt : (tt : Int) < (T.length : Int) := by have := HTL.out; omega
     have gj : (j : Int) < (row.length : Int) := by omega
     have hjj := Aside0.mk hjr
     clear f5 f1 hh a b htt htc hy hyv hsuc hG ho hV hcl hrow hjg hjr
     go_wp2_with fail
     refine start_ (n := 28) (S := fun w' => w'.cell? (adt.add v) = some (.int .i64 (u : Int)) ∧ w'.cell? (adt.add tt) = some (.int .i64 y) ∧ w'.cell? ⟨b1, 0, none⟩ = some (.int .i64 (N : Int)) ∧ w'.cell? ⟨b1, 1, none⟩ = some (.slice A l.length c) ∧ w'.cell? (ad.add v) = some (.slice (some adD) row.length cD) ∧ w'.cell? (adD.add j) = some (.int .i64 h) ∧ w'.cell? ⟨bo, u, none⟩ = some (.slice Av g.length cv)) (ds := [27]) #[false, false, false, false, false, false, false, false, false, false, false, false, false, false, false, false, false, false, false, false, false, false, false, false, false, false, false, false] (by kernel_rfl) rfl rfl ⟨(HBD.out.cell (cell_lt F0.out)).trans F0.out, (HBD.out.cell (cell_lt F1.out)).trans F1.out, (HBD.out.cell (cell_lt F2.out)).trans F2.out, (HBD.out.cell (cell_lt F3.out)).trans F3.out, (HBD.out.cell (cell_lt F4.out)).trans F4.out, (HBD.out.cell (cell_lt F5.out)).trans F5.out, cz0⟩ (fun hHeld => ?_)
     refine pure_ (i := 0) (N := some 163) (v := ?_) (a' := ?_) #[true, false, false, false, false, false, false, false, false, false, false, false, false, false, false, false, false, false, false, false, false, false, false, false, false, false, false, false] rfl rfl (by kernel_rfl) (fun _ _ _ h => h) (Or.inl ⟨by rfl, ?_⟩) ?_ ?_
     rotate_left
     ·intro w'
      go_simp
      with_reducible rfl
     rotate_left
     ·simp only [Act.put, List.setIfInBounds_toArray, List.set_cons_zero, List.set_cons_succ, i64_w, i32_w]
      rfl
     refine pure_ (i := 1) (N := some 164) (v := ?_) (a' := ?_) #[true, true, false, false, false, false, false, false, false, false, false, false, false, false, false, false, false, false, false, false, false, false, false, false, false, false, false, false] rfl rfl (by kernel_rfl) (fun _ _ _ h => h) (Or.inl ⟨by rfl, ?_⟩) ?_ ?_
     rotate_left
     ·intro w'
      go_simp
      with_reducible rfl
     rotate_left
     ·simp only [Act.put, List.setIfInBounds_toArray, List.set_cons_zero, List.set_cons_succ, i64_w, i32_w]
      rfl
     refine pure_ (i := 2) (N := some 165) (v := ?_) (a' := ?_) #[true, true, true, false, false, false, false, false, false, false, false, false, false, false, false, false, false, false, false, false, false, false, false, false, false, false, false, false] rfl rfl (by kernel_rfl) (fun _ _ _ h => h) (Or.inl ⟨by rfl, ?_⟩) ?_ ?_
     rotate_left
     ·intro w'
      go_simp
      with_reducible rfl
     rotate_left
     ·simp only [Act.put, List.setIfInBounds_toArray, List.set_cons_zero, List.set_cons_succ, i64_w, i32_w]
      rfl
     refine pure_ (i := 3) (N := some 166) (v := ?_) (a' := ?_) #[true, true, true, true, false, false, false, false, false, false, false, false, false, false, false, false, false, false, false, false, false, false, false, false, false, false, false, false] rfl rfl (by kernel_rfl) (fun _ _ _ h => h) (Or.inl ⟨by rfl, ?_⟩) ?_ ?_
     rotate_left
     ·intro w'
      go_simp
      with_reducible rfl
     rotate_left
     ·simp only [Act.put, List.setIfInBounds_toArray, List.set_cons_zero, List.set_cons_succ, i64_w, i32_w]
      rfl
     refine pure_ (i := 5) (N := some 168) (v := ?_) (a' := ?_) #[true, true, true, true, false, true, false, false, false, false, false, false, false, false, false, false, false, false, false, false, false, false, false, false, false, false, false, false] rfl rfl (by kernel_rfl) (fun _ _ _ h => h) (Or.inl ⟨by rfl, ?_⟩) ?_ ?_
     rotate_left
     ·intro w'
      go_simp
      with_reducible rfl
     rotate_left
     ·simp only [Act.put, List.setIfInBounds_toArray, List.set_cons_zero, List.set_cons_succ, i64_w, i32_w]
      rfl
     refine pure_ (i := 6) (N := some 169) (v := ?_) (a' := ?_) #[true, true, true, true, false, true, true, false, false, false, false, false, false, false, false, false, false, false, false, false, false, false, false, false, false, false, false, false] rfl rfl (by kernel_rfl) (fun _ _ _ h => h) (Or.inl ⟨by rfl, ?_⟩) ?_ ?_
     rotate_left
     ·intro w'
      go_simp
      with_reducible rfl
     rotate_left
     ·simp only [Act.put, List.setIfInBounds_toArray, List.set_cons_zero, List.set_cons_succ, i64_w, i32_w]
      rfl
     refine pure_ (i := 7) (N := some 170) (v := ?_) (a' := ?_) #[true, true, true, true, false, true, true, true, false, false, false, false, false, false, false, false, false, false, false, false, false, false, false, false, false, false, false, false] rfl rfl (by kernel_rfl) (fun _ _ _ h => h) (Or.inl ⟨by rfl, ?_⟩) ?_ ?_
     rotate_left
     ·intro w'
      go_simp
      with_reducible rfl
     rotate_left
     ·simp only [Act.put, List.setIfInBounds_toArray, List.set_cons_zero, List.set_cons_succ, i64_w, i32_w]
      rfl
     refine pure_ (i := 8) (N := some 171) (v := ?_) (a' := ?_) #[true, true, true, true, false, true, true, true, true, false, false, false, false, false, false, false, false, false, false, false, false, false, false, false, false, false, false, false] rfl rfl (by kernel_rfl) (fun _ _ _ h => h) (Or.inl ⟨by rfl, ?_⟩) ?_ ?_
     rotate_left
     ·intro w'
      go_simp
      with_reducible rfl
     rotate_left
     ·simp only [Act.put, List.setIfInBounds_toArray, List.set_cons_zero, List.set_cons_succ, i64_w, i32_w]
      rfl
     refine pure_ (i := 12) (N := some 175) (v := ?_) (a' := ?_) #[true, true, true, true, false, true, true, true, true, false, false, false, true, false, false, false, false, false, false, false, false, false, false, false, false, false, false, false] rfl rfl (by kernel_rfl) (fun _ _ _ h => h) (Or.inl ⟨by rfl, ?_⟩) ?_ ?_
     rotate_left
     ·intro w'
      go_simp
      with_reducible rfl
     rotate_left
     ·simp only [Act.put, List.setIfInBounds_toArray, List.set_cons_zero, List.set_cons_succ, i64_w, i32_w]
      rfl
     refine pure_ (i := 14) (N := some 177) (v := ?_) (a' := ?_) #[true, true, true, true, false, true, true, true, true, false, false, false, true, false, true, false, false, false, false, false, false, false, false, false, false, false, false, false] rfl rfl (by kernel_rfl) (fun _ _ _ h => h) (Or.inl ⟨by rfl, ?_⟩) ?_ ?_
     rotate_left
     ·intro w'
      go_simp
      with_reducible rfl
     rotate_left
     ·simp only [Act.put, List.setIfInBounds_toArray, List.set_cons_zero, List.set_cons_succ, i64_w, i32_w]
      rfl
     refine pure_ (i := 15) (N := some 178) (v := ?_) (a' := ?_) #[true, true, true, true, false, true, true, true, true, false, false, false, true, false, true, true, false, false, false, false, false, false, false, false, false, false, false, false] rfl rfl (by kernel_rfl) (fun _ _ _ h => h) (Or.inl ⟨by rfl, ?_⟩) ?_ ?_
     rotate_left
     ·intro w'
      go_simp
      with_reducible rfl
     rotate_left
     ·simp only [Act.put, List.setIfInBounds_toArray, List.set_cons_zero, List.set_cons_succ, i64_w, i32_w]
      rfl
     refine pure_ (i := 16) (N := some 179) (v := ?_) (a' := ?_) #[true, true, true, true, false, true, true, true, true, false, false, false, true, false, true, true, true, false, false, false, false, false, false, false, false, false, false, false] rfl rfl (by kernel_rfl) (fun _ _ _ h => h) (Or.inl ⟨by rfl, ?_⟩) ?_ ?_
     rotate_left
     ·intro w'
      go_simp
      with_reducible rfl
     rotate_left
     ·simp only [Act.put, List.setIfInBounds_toArray, List.set_cons_zero, List.set_cons_succ, i64_w, i32_w]
      rfl
     refine pure_ (i := 18) (N := some 181) (v := ?_) (a' := ?_) #[true, true, true, true, false, true, true, true, true, false, false, false, true, false, true, true, true, false, true, false, false, false, false, false, false, false, false, false] rfl rfl (by kernel_rfl) (fun _ _ _ h => h) (Or.inl ⟨by rfl, ?_⟩) ?_ ?_
     rotate_left
     ·intro w'
      go_simp
      with_reducible rfl
     rotate_left
     ·simp only [Act.put, List.setIfInBounds_toArray, List.set_cons_zero, List.set_cons_succ, i64_w, i32_w]
      rfl
     refine take_ (i := 4) (N := some 167) (v := ?_) (a' := ?_) #[true, true, true, true, true, true, true, true, true, false, false, false, true, false, true, true, true, false, true, false, false, false, false, false, false, false, false, false] rfl rfl (by kernel_rfl) (fun _ _ _ h => h) (Or.inl ⟨by rfl, ?_⟩) hHeld ?_ ?_
     rotate_left
     ·rintro w' ⟨s0, s1, s2, s3, s4, s5, s6⟩
      go_simp
      with_reducible rfl
     rotate_left
     ·simp only [Act.put, List.setIfInBounds_toArray, List.set_cons_zero, List.set_cons_succ, i64_w, i32_w]
      rfl
     refine take_ (i := 9) (N := some 172) (v := ?_) (a' := ?_) #[true, true, true, true, true, true, true, true, true, true, false, false, true, false, true, true, true, false, true, false, false, false, false, false, false, false, false, false] rfl rfl (by kernel_rfl) (fun _ _ _ h => h) (Or.inl ⟨by rfl, ?_⟩) hHeld ?_ ?_
     rotate_left
     ·rintro w' ⟨s0, s1, s2, s3, s4, s5, s6⟩
      go_simp
      with_reducible rfl
     rotate_left
     ·simp only [Act.put, List.setIfInBounds_toArray, List.set_cons_zero, List.set_cons_succ, i64_w, i32_w]
      rfl
     refine pure_ (i := 10) (N := some 173) (v := ?_) (a' := ?_) #[true, true, true, true, true, true, true, true, true, true, true, false, true, false, true, true, true, false, true, false, false, false, false, false, false, false, false, false] rfl rfl (by kernel_rfl) (fun _ _ _ h => h) (Or.inl ⟨by rfl, ?_⟩) ?_ ?_
     rotate_left
     ·intro w'
      go_simp
      with_reducible rfl
     rotate_left
     ·simp only [Act.put, List.setIfInBounds_toArray, List.set_cons_zero, List.set_cons_succ, i64_w, i32_w]
      rfl
     refine take_ (i := 11) (N := some 174) (v := ?_) (a' := ?_) #[true, true, true, true, true, true, true, true, true, true, true, true, true, false, true, true, true, false, true, false, false, false, false, false, false, false, false, false] rfl rfl (by kernel_rfl) (fun _ _ _ h => h) (Or.inl ⟨by rfl, ?_⟩) hHeld ?_ ?_
     rotate_left
     ·rintro w' ⟨s0, s1, s2, s3, s4, s5, s6⟩
      go_simp
      with_reducible rfl
     rotate_left
     ·simp only [Act.put, List.setIfInBounds_toArray, List.set_cons_zero, List.set_cons_succ, i64_w, i32_w]
      rfl
     refine take_ (i := 13) (N := some 176) (v := ?_) (a' := ?_) #[true, true, true, true, true, true, true, true, true, true, true, true, true, true, true, true, true, false, true, false, false, false, false, false, false, false, false, false] rfl rfl (by kernel_rfl) (fun _ _ _ h => h) (Or.inl ⟨by rfl, ?_⟩) hHeld ?_ ?_
     rotate_left
     ·rintro w' ⟨s0, s1, s2, s3, s4, s5, s6⟩
      go_simp
      with_reducible rfl
     rotate_left
     ·simp only [Act.put, List.setIfInBounds_toArray, List.set_cons_zero, List.set_cons_succ, i64_w, i32_w]
      rfl
     refine take_ (i := 17) (N := some 180) (v := ?_) (a' := ?_) #[true, true, true, true, true, true, true, true, true, true, true, true, true, true, true, true, true, true, true, false, false, false, false, false, false, false, false, false] rfl rfl (by kernel_rfl) (fun _ _ _ h => h) (Or.inl ⟨by rfl, ?_⟩) hHeld ?_ ?_
     rotate_left
     ·rintro w' ⟨s0, s1, s2, s3, s4, s5, s6⟩
      go_simp
      with_reducible rfl
     rotate_left
     ·simp only [Act.put, List.setIfInBounds_toArray, List.set_cons_zero, List.set_cons_succ, i64_w, i32_w]
      rfl
     refine pure_ (i := 19) (N := some 182) (v := ?_) (a' := ?_) #[true, true, true, true, true, true, true, true, true, true, true, true, true, true, true, true, true, true, true, true, false, false, false, false, false, false, false, false] rfl rfl (by kernel_rfl) (fun _ _ _ h => h) (Or.inl ⟨by rfl, ?_⟩) ?_ ?_
     rotate_left
     ·intro w'
      go_simp
      with_reducible rfl
     rotate_left
     ·simp only [Act.put, List.setIfInBounds_toArray, List.set_cons_zero, List.set_cons_succ, i64_w, i32_w]
      rfl
     refine take_ (i := 20) (N := some 183) (v := ?_) (a' := ?_) #[true, true, true, true, true, true, true, true, true, true, true, true, true, true, true, true, true, true, true, true, true, false, false, false, false, false, false, false] rfl rfl (by kernel_rfl) (fun _ _ _ h => h) (Or.inl ⟨by rfl, ?_⟩) hHeld ?_ ?_
     rotate_left
     ·rintro w' ⟨s0, s1, s2, s3, s4, s5, s6⟩
      go_simp
      with_reducible rfl
     rotate_left
     ·simp only [Act.put, List.setIfInBounds_toArray, List.set_cons_zero, List.set_cons_succ, i64_w, i32_w]
      rfl
     refine one_ (i := 21) (N := some 184) #[true, true, true, true, true, true, true, true, true, true, true, true, true, true, true, true, true, true, true, true, true, true, false, false, false, false, false, false] rfl rfl (by kernel_rfl) (by decide) (fun K hK => ?_)
     refine goes_ Try.func27 (by kernel_rfl) rfl #[.agg #[.int .i64 (N : Int), .slice A l.length c], .int .i64 h] (by rfl) rfl rfl (by simp only [List.map_toArray, List.map_cons, List.map_nil]; rfl) ?_
     with_reducible refine (tangramref03_To.calls (N : Int) A c l h (tt : Int) _ HLD.out HCC.out HTO.out).mono ?_
     rintro e' w17 ⟨rfl, hb⟩
     refine ⟨_, rfl, ?_⟩
     have HGT := Aside0.mk (HGD.out.below hb)
     have HBT : Aside0 (Below w14.heap.size w14 w17) := ⟨HBD.out.trans (hb.mono HBD.out.size)⟩
     have HOT : Aside0 (w17.ownsRow (bo + 1) 3 1 (.slice Av g.length cv) g.length (encs (Value.int .i64) g)) := ⟨by have h := HGT.out.own u HVB.out; rw [← HRW.out, HV2.out] at h; exact h⟩
     refine hK.out _ _ ⟨(HBT.out.cell (cell_lt F0.out)).trans F0.out, (HBT.out.cell (cell_lt F1.out)).trans F1.out, (HBT.out.cell (cell_lt F2.out)).trans F2.out, (HBT.out.cell (cell_lt F3.out)).trans F3.out, (HBT.out.cell (cell_lt F4.out)).trans F4.out, (HBT.out.cell (cell_lt F5.out)).trans F5.out, (hb.cell (cell_lt cz0)).trans cz0⟩ (fun hHeld => ?_)
     clear hK K
     refine norm_ (a' := ?_) ?_ ?_
     rotate_left
     ·show Act.put _ (some 184) _ = _
      simp only [Act.put, List.setIfInBounds_toArray, List.set_cons_zero, List.set_cons_succ, i64_w, i32_w]
      rfl
     refine pure_ (i := 22) (N := some 185) (v := ?_) (a' := ?_) #[true, true, true, true, true, true, true, true, true, true, true, true, true, true, true, true, true, true, true, true, true, true, true, false, false, false, false, false] rfl rfl (by kernel_rfl) (fun _ _ _ h => h) (Or.inl ⟨by rfl, ?_⟩) ?_ ?_
     rotate_left
     ·intro w'
      go_simp
      with_reducible rfl
     rotate_left
     ·simp only [Act.put, List.setIfInBounds_toArray, List.set_cons_zero, List.set_cons_succ, i64_w, i32_w]
      rfl
     refine take_ (i := 23) (N := some 186) (v := ?_) (a' := ?_) #[true, true, true, true, true, true, true, true, true, true, true, true, true, true, true, true, true, true, true, true, true, true, true, true, false, false, false, false] rfl rfl (by kernel_rfl) (fun _ _ _ h => h) (Or.inl ⟨by rfl, ?_⟩) hHeld ?_ ?_
     rotate_left
     ·rintro w' ⟨s0, s1, s2, s3, s4, s5, s6⟩
      go_simp
      with_reducible rfl
     rotate_left
     ·simp only [Act.put, List.setIfInBounds_toArray, List.set_cons_zero, List.set_cons_succ, i64_w, i32_w]
      rfl
     refine one_ (i := 24) (N := some 187) #[true, true, true, true, true, true, true, true, true, true, true, true, true, true, true, true, true, true, true, true, true, true, true, true, true, false, false, false] rfl rfl (by kernel_rfl) (by decide) (fun K hK => ?_)
     refine value_ (w1 := ?_) (v := ?_) (by rfl) rfl ?_ ?_
     rotate_left 2
     ·go_simp
      constructor
      ·rfl
      ·rfl
     refine hK.out _ _ ⟨(World.cell?_alloc_lt _ _ _ (World.block_lt_of_cell? _ _ hHeld.1)).trans hHeld.1, (World.cell?_alloc_lt _ _ _ (World.block_lt_of_cell? _ _ hHeld.2.1)).trans hHeld.2.1, (World.cell?_alloc_lt _ _ _ (World.block_lt_of_cell? _ _ hHeld.2.2.1)).trans hHeld.2.2.1, (World.cell?_alloc_lt _ _ _ (World.block_lt_of_cell? _ _ hHeld.2.2.2.1)).trans hHeld.2.2.2.1, (World.cell?_alloc_lt _ _ _ (World.block_lt_of_cell? _ _ hHeld.2.2.2.2.1)).trans hHeld.2.2.2.2.1, (World.cell?_alloc_lt _ _ _ (World.block_lt_of_cell? _ _ hHeld.2.2.2.2.2.1)).trans hHeld.2.2.2.2.2.1, (World.cell?_alloc_lt _ _ _ (World.block_lt_of_cell? _ _ hHeld.2.2.2.2.2.2)).trans hHeld.2.2.2.2.2.2⟩ (fun hHeld => ?_)
     clear hK K
     refine norm_ (a' := ?_) ?_ ?_
     rotate_left
     ·show Act.put _ (some 187) _ = _
      simp only [Act.put, List.setIfInBounds_toArray, List.set_cons_zero, List.set_cons_succ, i64_w, i32_w]
      rfl
     refine one_ (i := 25) (N := some 188) #[true, true, true, true, true, true, true, true, true, true, true, true, true, true, true, true, true, true, true, true, true, true, true, true, true, true, false, false] rfl rfl (by kernel_rfl) (by decide) (fun K hK => ?_)
     refine step_append_cells (bo + 1) (by rfl) (.tmp 174) (.tmp 187) 32 3 (.int .i64 0) 1 8 rfl Try.underlying32 info_int rfl (by decide) (by omega) (.slice Av g.length cv) g.length (encs (Value.int .i64) g) [.int .i64 y] rfl rfl rfl ?aN HOT.out (Below.refl _ _) HGT.out.base ?aL ?_
     (case aN => intro u hu; simp at hu; subst hu; rfl)
     (case aL => have := HGL.out; omega)
     intro v1 w18 hown hb2 hg hat
     obtain ⟨A', c', rfl⟩ := own_sl hown
     have g1 := Rows2.app HGT.out (k := u) HVB.out (v' := .slice A' (g.length + 1) c') (x := y) (by rw [← HRW.out]; exact hown) (by rw [HV2.out]; exact hg) (by rw [HV2.out]; exact hat)
     rw [← HRW.out] at g1
     have e1 := HSUC.out
     rw [← HRW.out] at e1
     rw [e1] at g1
     have HG10 : Aside0 (∃ vs, Rows2 (w18.setCell ⟨bo, u, none⟩ (.slice A' (g.length + 1) c')) (bo + 1) bo vs (gsTo N l r T [] v (j + 1))) := ⟨_, g1⟩
     have HBa := Aside0.mk (HBT.out.grown hg HBT.out.size (fun k hk => by have := (HOT.out.lt k hk).1; have := HBO.out; omega))
     have HB10 := Aside0.mk (HBa.out.setCell (p := ⟨bo, u, none⟩) (by have := HBO.out; simp; omega) (.slice A' (g.length + 1) c'))
     have ho1 : w18.heap[bo]? = some (.cells vs.toArray 32 (0, 0)) := (hg.block bo (lt_of HGT.out.out) (fun e => by have := (HOT.out.lt bo e.symm).1; omega)).trans HGT.out.out
     have fz := heap_free ho1 u
     have cz : w18.cell? ⟨bo, u, none⟩ = some (.slice Av g.length cv) := by rw [← HV2.out]; exact heap_cell ho1 (by have h9 := HGT.out.len; have h8 := HVB.out; simp [va_of (show u < vs.length by omega)])
     refine hK.out _ _ ⟨(HBa.out.cell (cell_lt F0.out)).trans F0.out, (HBa.out.cell (cell_lt F1.out)).trans F1.out, (HBa.out.cell (cell_lt F2.out)).trans F2.out, (HBa.out.cell (cell_lt F3.out)).trans F3.out, (HBa.out.cell (cell_lt F4.out)).trans F4.out, (HBa.out.cell (cell_lt F5.out)).trans F5.out, cz⟩ (fun hHeld => ?_)
     clear hK K
     refine norm_ (a' := ?_) ?_ ?_
     rotate_left
     ·show Act.put _ (some 188) _ = _
      simp only [Act.put, List.setIfInBounds_toArray, List.set_cons_zero, List.set_cons_succ, i64_w, i32_w]
      rfl
     refine pure_ (i := 26) (N := some 189) (v := ?_) (a' := ?_) #[true, true, true, true, true, true, true, true, true, true, true, true, true, true, true, true, true, true, true, true, true, true, true, true, true, true, true, false] rfl rfl (by kernel_rfl) (fun _ _ _ h => h) (Or.inl ⟨by rfl, ?_⟩) ?_ ?_
     rotate_left
     ·intro w'
      go_simp
      with_reducible rfl
     rotate_left
     ·simp only [Act.put, List.setIfInBounds_toArray, List.set_cons_zero, List.set_cons_succ, i64_w, i32_w]
      rfl
     refine last_ (i := 27) (N := none) #[true, true, true, true, true, true, true, true, true, true, true, true, true, true, true, true, true, true, true, true, true, true, true, true, true, true, true, true] rfl rfl (by kernel_rfl) (by decide) (fun K hK => ?_)
     refine skip_ (w1 := ?_) (by rfl) rfl ?_ ?_
     rotate_left
     ·go_simp
      rfl
     refine hK.out _ _ ?_
     clear hK K
     refine done_ (by kernel_rfl) ?_
     clear cz0 HGD HBD HGT HBT HOT hown hg hat hb hb2 g1 e1 ho1 fz cz HBa HSUC HRW HV2 HVB HGL s1 y4
     go_wp2_with fail
     go_roundw
     case rel => exact ⟨j + 1, by go_num, by have := hjj.out; omega, HG10, HB10⟩
     case measure => have := hjj.out; simp [intOf]; omega
    ·obtain rfl : j = row.length := by omega
     have s1 : decide ((row.length : Int) < (row.length : Int)) = false := decide_eq_false (by omega)
     have s2 : ¬ row.length < row.length := by omega
     have s3 : decide (row.length < row.length) = false := decide_eq_false s2
     go_wp2_with fail
     clear s1 s2 s3 y4
     have HG3 : Aside0 (∃ vs, Rows2 wr (bo + 1) bo vs (gsTo N l r T [] (v + 1) 0)) := ⟨by
      have h := HG2.out
      rw [HROW.out, gsTo_next] at h
      exact h⟩
     go_roundw
     case rel => exact ⟨v + 1, by go_num, by have := HVI.out; omega, HG3, HE2⟩
     case measure => have := HVI.out; simp [intOf]; omega
  ·obtain rfl : v = N := by omega
   have d0 : decide ((v : Int) < (v : Int)) = false := decide_eq_false (by omega)
   have d0' : decide (v < v) = false := decide_eq_false (by omega)
   have hz := (HE.out.block _ (lt_of HZ.out)).trans HZ.out
   have z0 : wr.cell? ⟨b3, 0, none⟩ = some (.int .i64 (v : Int)) := heap_cell hz rfl
   have z1 : wr.cell? ⟨b3, 1, none⟩ = some (.slice Al l2.length cl) := heap_cell hz rfl
   clear hz
   go_wp2_with fail
   clear x0 z0 z1 d0 d0'
   obtain ⟨vs, hG⟩ := HG1.out
   have hgl : (gsTo v l r T [] v 0).length = v := gsTo_length _ _
   obtain ⟨_, _, hrot⟩ := Kd.S_reads' (hG.tells (base := 0) (Nat.zero_le _) (Nat.zero_le _) (by rw [hgl]; omega))
   refine (of2_calls k v Al cl l2 (some ⟨bo, 0, none⟩) v (gsTo v l r T [] v 0) q wr hgl (Kd.C_below HG.out HE.out) HCL.out hrot (Nat.le_of_eq hgl) HAN.out.of2).mono ?_
   rintro e' w16 ⟨vq, rfl, hS, hb⟩
   obtain ⟨Aq, cq, rfl, hcq, hS⟩ := Kd.S_reads hS
   have HQ := Aside0.mk hS
   have HCQ := Aside0.mk hcq
   have HE2 : Aside0 (Below w14.heap.size w14 w16) := ⟨HE.out.trans (hb.mono HE.out.size)⟩
   clear hG hgl hrot hb hS hcq HE HG1
   have t5 : ((0 : Int) == 0) = true := rfl
   have hz := (HE2.out.block _ (lt_of HZ.out)).trans HZ.out
   have z2 : w16.cell? ⟨b3, 2, none⟩ = some (.slice Ar r2.length cr) := heap_cell hz rfl
   clear hz
   go_wp2_with fail
   clear z2 t5
   refine (tangramref11_Same.calls k Aq cq q Ar cr r2 true w16 HQ.out HCQ.out (Kd.C_below HR2.out HE2.out) HCR.out HAN.out.same).mono ?_
   rintro e' w17 ⟨rfl, hb⟩
   have HBE : Aside0 (Below w.heap.size w w17) := ⟨HB.out.trans ((HE2.out.trans (hb.mono HE2.out.size)).mono HB.out.size)⟩
   clear hb
   go_wp2_with fail
   go_ret
   exact ⟨by simp, HBE.out⟩
theorem CanonNames (a0_0 : Int) (A0_1 : Option Addr) (c0_1 : Nat) (l0_1 : List Ed) (A1 : Option Addr) (c1 : Nat) (l1 : List (List Int)) (A2 : Option Addr) (c2 : Nat) (l2 : List Int) (w : World) (hr0_1 : Kd.C k89 w A0_1 l0_1.length l0_1) (hc0_1 : l0_1.length ≤ c0_1) (hr1 : Kd.C (Kd.slice 3 (Kd.int .i64)) w A1 l1.length l1) (hc1 : l1.length ≤ c1) (hr2 : Kd.C (Kd.int .i64) w A2 l2.length l2) (hc2 : l2.length ≤ c2)
  (g0 : Open.I64 a0_0 ∧ l0_1.length * 16 ≤ 140737488351232 ∧ ∀ x ∈ l0_1, Open.I64 x.f0 ∧ Open.I64 x.f1) (g1 : l1.length * 24 ≤ 140737488351232 ∧ ∀ x ∈ l1, x.length * 8 ≤ 140737488351232 ∧ ∀ y ∈ x, Open.I64 y) (g2 : l2.length * 8 ≤ 140737488351232 ∧ ∀ y ∈ l2, Open.I64 y) :
  Calls Try.prog 8 #[.agg #[.int .i64 a0_0, .slice A0_1 l0_1.length c0_1], .slice A1 l1.length c1, .slice A2 l2.length c2] w fun e w' => e = .returned (.bool true) ∧ Below w.heap.size w w' := by
 have hs : Small l1 := ⟨g1.1, fun l hl => (g1.2 l hl).1⟩
 obtain ⟨K0, h0⟩ := copied_ev a0_0 l0_1 l1 (by omega) hs
 have no : ∀ {e : Int}, e ≠ 0 → Ev (fun k => canon_one.f k a0_0 l0_1 l1) (0, [], [], e) → Calls Try.prog 8 #[.agg #[.int .i64 a0_0, .slice A0_1 l0_1.length c0_1], .slice A1 l1.length c1, .slice A2 l2.length c2] w fun e w' => e = .returned (.bool true) ∧ Below w.heap.size w w' := by
  intro e he h
  have hk : Ev (fun k => canon_Code.f k a0_0 l0_1 l1) ([], e) := by
   unfold canon_Code.f
   exact Ev.bind h (Ev.congr (fun k => if_neg he) (Ev.now _))
  obtain ⟨K1, h1⟩ := hk
  exact names_walk (K0 + K1) a0_0 A0_1 c0_1 l0_1 A1 c1 l1 A2 c2 l2 w hr0_1 hc0_1 hr1 hc1 hr2 (by omega) [] e (h0 _ (by omega)) (h1 _ (by omega)) (fun _ => rfl) (fun q => absurd q he)
 cases case a0_0 l0_1 l1 hs with
 | bad v e he _ hl _ _ =>
  have h := one_ev hl
  rw [if_neg he] at h
  exact no he h
 | apart _ hl _ _ =>
  have h := one_ev hl
  rw [if_pos rfl] at h
  exact no (by decide) h
 | fine N hN hm hp hl0 hl hcc hf =>
  subst hN
  obtain ⟨t, m2, r2, T, q, K, hA⟩ := named hm hp hl0 hf l2
  obtain ⟨K1, h1⟩ := code_map hm hp hl0
  exact names_walk (K0 + K1 + K) (N : Int) A0_1 c0_1 l0_1 A1 c1 l1 A2 c2 l2 w hr0_1 hc0_1 hr1 hc1 hr2 (by omega) _ 0 (h0 _ (by omega)) (h1 _ (by omega)) (fun q => absurd rfl q) (fun _ => ⟨N, t, m2, r2, T, q, rfl, hA _ (by omega)⟩)
end Go.Proofs.Yteeihjpnhjnknaa.Rot
