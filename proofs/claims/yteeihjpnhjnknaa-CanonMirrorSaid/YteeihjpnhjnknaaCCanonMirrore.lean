/- DERIVED. Texts of this seat, one behind the other: lemmas and walks that the statement CanonMirror needs. No condition. -/
import Derived.Test.YteeihjpnhjnknaaCCanonMirrorc
import Derived.Test.YteeihjpnhjnknaaCCanonMirrord
namespace Go.Proofs.Yteeihjpnhjnknaa.GAll
open Go.RowKit Go.Proofs.YteeihjpnhjnknaaW.PrintWords Go.Proofs.YteeihjpnhjnknaaW.PrintLast Go.Proofs.YteeihjpnhjnknaaW.PrintMore
attribute [local go_sem] max2_int min2_int max_two min_two max_three min_three max_four min_four   -- for this text's walks alone
set_option linter.unusedVariables false
set_option linter.unusedSimpArgs false
def tangramlaw21_wakes.r : List (List Int) := [[0], [1, 2], [3]]
def tangramlaw21_wakes.es : List S89 := [⟨0, 1⟩, ⟨1, 2⟩]
set_option maxRecDepth 100000 in
theorem tangramlaw21_wakes.c0 : tangramlaw21_path.f = some (3, tangramlaw21_wakes.es, tangramlaw21_wakes.r) := by kernel_rfl
set_option maxRecDepth 100000 in
theorem tangramlaw21_wakes.c1 : canon_Code.f 40 3 tangramlaw21_wakes.es tangramlaw21_wakes.r = some ([1, 1, 2, 0, 2, 1, 1], 0) := by kernel_rfl
set_option maxRecDepth 100000 in
theorem tangramlaw21_wakes.c2 : canon_Rooted.f 40 3 tangramlaw21_wakes.es tangramlaw21_wakes.r 1 = some ([2, 1, 2, 1, 0, 1, 0], 0) := by kernel_rfl
set_option maxRecDepth 100000 in
theorem tangramlaw21_wakes.c3 : canon_Turns.f 40 3 tangramlaw21_wakes.es tangramlaw21_wakes.r = some (2, 0) := by kernel_rfl
set_option maxRecDepth 100000 in
theorem tangramlaw21_wakes.c4 : canon_Match.f 40 3 tangramlaw21_wakes.es tangramlaw21_wakes.r 3 tangramlaw21_wakes.es tangramlaw21_wakes.r = some ([0, 1, 2], true, 0) := by kernel_rfl
set_option maxRecDepth 100000 in
theorem tangramlaw21_wakes.c5 : canon_Code.f 40 1 [] [[]] = some ([], 210) := by kernel_rfl
theorem tangramlaw21_wakes.s1 : tangramref03_SameInts.f 40 [1, 1, 2, 0, 2, 1, 1] [1, 1, 2, 0, 2, 1, 1] = some true := by kernel_rfl
theorem tangramlaw21_wakes.s2 : tangramref03_SameInts.f 40 [2, 1, 2, 1, 0, 1, 0] [2, 1, 2, 1, 0, 1, 0] = some true := by kernel_rfl
theorem tangramlaw21_wakes.s3 : tangramref03_SameInts.f 40 [0, 1, 2] [0, 1, 2] = some true := by kernel_rfl
def tangramlaw21_wakes.f : Option Bool := some true
set_option maxHeartbeats 4000000 in
set_option maxRecDepth 100000 in
theorem tangramlaw21_wakes.calls (r : Bool) (w : World) (h : tangramlaw21_wakes.f = some r) :
   Calls Try.prog 11 #[] w fun e w' => e = .returned (.bool r) ∧ Below w.heap.size w w' := by
 obtain rfl : true = r := by simpa [tangramlaw21_wakes.f] using h
 clear h
 go_enter Try.func11, Try.ntmps11
 go_wp2_with fail
 refine (tangramlaw21_path.calls _ _ _ w tangramlaw21_wakes.c0).mono ?_
 rintro e w1 ⟨v1, v2, rfl, hR, hN, hb⟩
 have HB1 := Aside0.mk hb
 obtain ⟨A, c, rfl, hc, hC⟩ := Kd.R_reads hR
 obtain ⟨A1, c1, rfl, hc1, hC1⟩ := Kd.N_reads hN
 have HC1 := Aside0.mk hC
 have HL := Aside0.mk hc
 have HD1 := Aside0.mk hC1
 have HL1 := Aside0.mk hc1
 clear hb hR hN hC hC1 hc hc1
 have HX1 : Aside0 ((w1.alloc (.cells #[.int .i64 3, .slice A tangramlaw21_wakes.es.length c] 24 (0, 0))).heap[w1.heap.size]? = some (.cells #[.int .i64 3, .slice A tangramlaw21_wakes.es.length c] 24 (0, 0))) := ⟨Mem.heap_last w1 _⟩
 have hb : Below w1.heap.size w1 (w1.alloc (.cells #[.int .i64 3, .slice A tangramlaw21_wakes.es.length c] 24 (0, 0))) := (Below.refl _ _).alloc (Nat.le_refl _) _
 have HB2 := Aside0.mk (HB1.out.trans (hb.mono HB1.out.size))
 have HC2 := Aside0.mk (Kd.C_below HC1.out hb)
 have HD2 := Aside0.mk (Kd.C_below HD1.out hb)
 have x0 : (w1.alloc (.cells #[.int .i64 3, .slice A tangramlaw21_wakes.es.length c] 24 (0, 0))).cell? ⟨w1.heap.size, 0, none⟩ = some (.int .i64 3) := Mem.heap_cell HX1.out rfl
 have x1 : (w1.alloc (.cells #[.int .i64 3, .slice A tangramlaw21_wakes.es.length c] 24 (0, 0))).cell? ⟨w1.heap.size, 1, none⟩ = some (.slice A tangramlaw21_wakes.es.length c) := Mem.heap_cell HX1.out rfl
 clear hb HB1 HC1 HD1
 go_wp2_with fail
 generalize w1.alloc (.cells #[.int .i64 3, .slice A tangramlaw21_wakes.es.length c] 24 (0, 0)) = w2 at HX1 HB2 HC2 HD2 x0 x1 ⊢
 obtain ⟨b, hbb⟩ : ∃ b, b = w1.heap.size := ⟨_, rfl⟩
 rw [← hbb] at HX1 x0 x1 ⊢
 clear hbb
 refine (canon_Code.calls 40 3 A c tangramlaw21_wakes.es A1 c1 tangramlaw21_wakes.r _ _ w2 HC2.out HL.out HD2.out HL1.out tangramlaw21_wakes.c1).mono ?_
 rintro e w3 ⟨v, rfl, hR, hb⟩
 have HB3 := Aside0.mk (HB2.out.trans (hb.mono HB2.out.size))
 have HX3 := Aside0.mk ((hb.block _ (Mem.lt_of HX1.out)).trans HX1.out)
 have HC3 := Aside0.mk (Kd.C_below HC2.out hb)
 have HD3 := Aside0.mk (Kd.C_below HD2.out hb)
 clear HB2 HX1 HC2 HD2
 first | clear x0 x1 | skip
 have x0 : w3.cell? ⟨b, 0, none⟩ = some (.int .i64 3) := Mem.heap_cell HX3.out rfl
 have x1 : w3.cell? ⟨b, 1, none⟩ = some (.slice A tangramlaw21_wakes.es.length c) := Mem.heap_cell HX3.out rfl
 clear hb
 obtain ⟨A3, c3, e3, hc, hC⟩ := Kd.R_reads hR
 have HR3 := Aside0.mk hC
 have HL3 := Aside0.mk hc
 clear hR hC hc
 subst e3
 go_wp2_with fail
 refine (canon_Rooted.calls 40 3 A c tangramlaw21_wakes.es A1 c1 tangramlaw21_wakes.r 1 _ _ w3 HC3.out HL.out HD3.out HL1.out tangramlaw21_wakes.c2).mono ?_
 rintro e w4 ⟨v, rfl, hR, hb⟩
 have HB4 := Aside0.mk (HB3.out.trans (hb.mono HB3.out.size))
 have HX4 := Aside0.mk ((hb.block _ (Mem.lt_of HX3.out)).trans HX3.out)
 have HC4 := Aside0.mk (Kd.C_below HC3.out hb)
 have HD4 := Aside0.mk (Kd.C_below HD3.out hb)
 clear HB3 HX3 HC3 HD3
 first | clear x0 x1 | skip
 have x0 : w4.cell? ⟨b, 0, none⟩ = some (.int .i64 3) := Mem.heap_cell HX4.out rfl
 have x1 : w4.cell? ⟨b, 1, none⟩ = some (.slice A tangramlaw21_wakes.es.length c) := Mem.heap_cell HX4.out rfl
 have HR3a := Aside0.mk (Kd.C_below HR3.out hb)
 clear HR3
 clear hb
 obtain ⟨A4, c4, e4, hc, hC⟩ := Kd.R_reads hR
 have HR4 := Aside0.mk hC
 have HL4 := Aside0.mk hc
 clear hR hC hc
 subst e4
 go_wp2_with fail
 refine (canon_Turns.calls 40 3 A c tangramlaw21_wakes.es A1 c1 tangramlaw21_wakes.r _ _ w4 HC4.out HL.out HD4.out HL1.out tangramlaw21_wakes.c3).mono ?_
 rintro e w5 ⟨rfl, hb⟩
 have HB5 := Aside0.mk (HB4.out.trans (hb.mono HB4.out.size))
 have HX5 := Aside0.mk ((hb.block _ (Mem.lt_of HX4.out)).trans HX4.out)
 have HC5 := Aside0.mk (Kd.C_below HC4.out hb)
 have HD5 := Aside0.mk (Kd.C_below HD4.out hb)
 clear HB4 HX4 HC4 HD4
 first | clear x0 x1 | skip
 have x0 : w5.cell? ⟨b, 0, none⟩ = some (.int .i64 3) := Mem.heap_cell HX5.out rfl
 have x1 : w5.cell? ⟨b, 1, none⟩ = some (.slice A tangramlaw21_wakes.es.length c) := Mem.heap_cell HX5.out rfl
 have HR3b := Aside0.mk (Kd.C_below HR3a.out hb)
 clear HR3a
 have HR4a := Aside0.mk (Kd.C_below HR4.out hb)
 clear HR4
 clear hb
 go_wp2_with fail
 refine (canon_Match.calls 40 3 A c tangramlaw21_wakes.es A1 c1 tangramlaw21_wakes.r 3 A c tangramlaw21_wakes.es A1 c1 tangramlaw21_wakes.r _ _ _ w5 HC5.out HL.out HD5.out HL1.out HC5.out HL.out HD5.out HL1.out tangramlaw21_wakes.c4).mono ?_
 rintro e w6 ⟨v, rfl, hR, hb⟩
 have HB6 := Aside0.mk (HB5.out.trans (hb.mono HB5.out.size))
 have HX6 := Aside0.mk ((hb.block _ (Mem.lt_of HX5.out)).trans HX5.out)
 have HC6 := Aside0.mk (Kd.C_below HC5.out hb)
 have HD6 := Aside0.mk (Kd.C_below HD5.out hb)
 clear HB5 HX5 HC5 HD5
 first | clear x0 x1 | skip
 have x0 : w6.cell? ⟨b, 0, none⟩ = some (.int .i64 3) := Mem.heap_cell HX6.out rfl
 have x1 : w6.cell? ⟨b, 1, none⟩ = some (.slice A tangramlaw21_wakes.es.length c) := Mem.heap_cell HX6.out rfl
 have HR3c := Aside0.mk (Kd.C_below HR3b.out hb)
 clear HR3b
 have HR4b := Aside0.mk (Kd.C_below HR4a.out hb)
 clear HR4a
 clear hb x0 x1
 obtain ⟨A6, c6, e6, hc, hC⟩ := Kd.R_reads hR
 have HR6 := Aside0.mk hC
 have HL6 := Aside0.mk hc
 clear hR hC hc
 subst e6
 have HQ7 : Aside0 (Kd.C Mem.KR ((Mem.lits w6 [[]]).alloc (.cells (Mem.outer w6.heap.size [[]]).toArray 32 (0, 0))) (some ⟨w6.heap.size + 1, 0, none⟩) 1 [[]]) := ⟨Mem.lits_reads w6 [[]] (by decide) (by decide)⟩
 have hb := Mem.lits_all w6 [[]]
 have HB7 := Aside0.mk (HB6.out.trans (hb.mono HB6.out.size))
 have HR3d := Aside0.mk (Kd.C_below HR3c.out hb)
 clear HR3c
 have HR4c := Aside0.mk (Kd.C_below HR4b.out hb)
 clear HR4b
 have HR6a := Aside0.mk (Kd.C_below HR6.out hb)
 clear HR6
 clear hb HB6 HX6 HC6 HD6
 go_wp2_with fail
 show Calls _ _ _ ((Mem.lits w6 [[]]).alloc (.cells (Mem.outer w6.heap.size [[]]).toArray 32 (0, 0))) _
 generalize (Mem.lits w6 [[]]).alloc (.cells (Mem.outer w6.heap.size [[]]).toArray 32 (0, 0)) = w7 at HQ7 HB7 HR3d HR4c HR6a ⊢
 refine (canon_Code.calls 40 1 none 0 [] (some ⟨w6.heap.size + 1, 0, none⟩) 1 [[]] _ _ w7 (Kd.C_nil _ _) (by decide) HQ7.out (by decide) tangramlaw21_wakes.c5).mono ?_
 rintro e w8 ⟨v, rfl, hR, hb⟩
 have HB8 := Aside0.mk (HB7.out.trans (hb.mono HB7.out.size))
 have HR3e := Aside0.mk (Kd.C_below HR3d.out hb)
 clear HR3d
 have HR4d := Aside0.mk (Kd.C_below HR4c.out hb)
 clear HR4c
 have HR6b := Aside0.mk (Kd.C_below HR6a.out hb)
 clear HR6a
 clear hb hR HQ7 HB7
 have HIX : Aside0 (Mem.IRow (w8.alloc (.cells #[.int .i64 1, .int .i64 1, .int .i64 2, .int .i64 0, .int .i64 2, .int .i64 1, .int .i64 1] 3 (0, 0))) w8.heap.size [1, 1, 2, 0, 2, 1, 1]) := ⟨Mem.heap_last w8 _⟩
 have hb := (Below.refl w8.heap.size w8).alloc (Nat.le_refl _) (.cells #[.int .i64 1, .int .i64 1, .int .i64 2, .int .i64 0, .int .i64 2, .int .i64 1, .int .i64 1] 3 (0, 0))
 have HBx := Aside0.mk (HB8.out.trans (hb.mono HB8.out.size))
 have HR3f := Aside0.mk (Kd.C_below HR3e.out hb)
 clear HR3e
 have HR4e := Aside0.mk (Kd.C_below HR4d.out hb)
 clear HR4d
 have HR6c := Aside0.mk (Kd.C_below HR6b.out hb)
 clear HR6b
 clear hb HB8
 go_wp2_with fail
 generalize w8.alloc (.cells #[.int .i64 1, .int .i64 1, .int .i64 2, .int .i64 0, .int .i64 2, .int .i64 1, .int .i64 1] 3 (0, 0)) = wx at HIX HBx HR3f HR4e HR6c ⊢
 refine (tangramref03_SameInts.calls 40 A3 c3 [1, 1, 2, 0, 2, 1, 1] (some ⟨w8.heap.size, 0, none⟩) 7 [1, 1, 2, 0, 2, 1, 1] true wx HR3f.out HL3.out (Mem.row_reads HIX.out (by decide)) (by decide) tangramlaw21_wakes.s1).mono ?_
 rintro e w9 ⟨rfl, hd⟩
 have hb := hd.below
 have HB9 := Aside0.mk (HBx.out.trans (hb.mono HBx.out.size))
 have HR4f := Aside0.mk (Kd.C_below HR4e.out hb)
 clear HR4e
 have HR6d := Aside0.mk (Kd.C_below HR6c.out hb)
 clear HR6c
 clear hb hd HIX HBx HR3f
 have HIX : Aside0 (Mem.IRow (w9.alloc (.cells #[.int .i64 2, .int .i64 1, .int .i64 2, .int .i64 1, .int .i64 0, .int .i64 1, .int .i64 0] 3 (0, 0))) w9.heap.size [2, 1, 2, 1, 0, 1, 0]) := ⟨Mem.heap_last w9 _⟩
 have hb := (Below.refl w9.heap.size w9).alloc (Nat.le_refl _) (.cells #[.int .i64 2, .int .i64 1, .int .i64 2, .int .i64 1, .int .i64 0, .int .i64 1, .int .i64 0] 3 (0, 0))
 have HBx := Aside0.mk (HB9.out.trans (hb.mono HB9.out.size))
 have HR4g := Aside0.mk (Kd.C_below HR4f.out hb)
 clear HR4f
 have HR6e := Aside0.mk (Kd.C_below HR6d.out hb)
 clear HR6d
 clear hb HB9
 go_wp2_with fail
 generalize w9.alloc (.cells #[.int .i64 2, .int .i64 1, .int .i64 2, .int .i64 1, .int .i64 0, .int .i64 1, .int .i64 0] 3 (0, 0)) = wx at HIX HBx HR4g HR6e ⊢
 refine (tangramref03_SameInts.calls 40 A4 c4 [2, 1, 2, 1, 0, 1, 0] (some ⟨w9.heap.size, 0, none⟩) 7 [2, 1, 2, 1, 0, 1, 0] true wx HR4g.out HL4.out (Mem.row_reads HIX.out (by decide)) (by decide) tangramlaw21_wakes.s2).mono ?_
 rintro e w10 ⟨rfl, hd⟩
 have hb := hd.below
 have HB10 := Aside0.mk (HBx.out.trans (hb.mono HBx.out.size))
 have HR6f := Aside0.mk (Kd.C_below HR6e.out hb)
 clear HR6e
 clear hb hd HIX HBx HR4g
 have HIX : Aside0 (Mem.IRow (w10.alloc (.cells #[.int .i64 0, .int .i64 1, .int .i64 2] 3 (0, 0))) w10.heap.size [0, 1, 2]) := ⟨Mem.heap_last w10 _⟩
 have hb := (Below.refl w10.heap.size w10).alloc (Nat.le_refl _) (.cells #[.int .i64 0, .int .i64 1, .int .i64 2] 3 (0, 0))
 have HBx := Aside0.mk (HB10.out.trans (hb.mono HB10.out.size))
 have HR6g := Aside0.mk (Kd.C_below HR6f.out hb)
 clear HR6f
 clear hb HB10
 go_wp2_with fail
 generalize w10.alloc (.cells #[.int .i64 0, .int .i64 1, .int .i64 2] 3 (0, 0)) = wx at HIX HBx HR6g ⊢
 refine (tangramref03_SameInts.calls 40 A6 c6 [0, 1, 2] (some ⟨w10.heap.size, 0, none⟩) 3 [0, 1, 2] true wx HR6g.out HL6.out (Mem.row_reads HIX.out (by decide)) (by decide) tangramlaw21_wakes.s3).mono ?_
 rintro e w11 ⟨rfl, hd⟩
 have hb := hd.below
 have HB11 := Aside0.mk (HBx.out.trans (hb.mono HBx.out.size))
 clear hb hd HIX HBx HR6g
 go_wp2_with fail
 go_ret
 exact ⟨rfl, HB11.out⟩
end Go.Proofs.Yteeihjpnhjnknaa.GAll
namespace Go.Proofs.Yteeihjpnhjnknaa.Rot
open Go.RowKit Go.Proofs.YteeihjpnhjnknaaW.PrintWords Go.Proofs.YteeihjpnhjnknaaW.PrintLast Go.Proofs.YteeihjpnhjnknaaW.PrintMore Go.Proofs.Yteeihjpnhjnknaa.GAll Go.Proofs.Yteeihjpnhjnknaa.Mem Go.Proofs.Yteeihjpnhjnknaa.Seen
set_option linter.unusedVariables false
set_option linter.unusedSimpArgs false
set_option maxHeartbeats 4000000 in
set_option maxRecDepth 100000 in
theorem mirror_bad (k : Nat) (n : Int) (A : Option Addr) (c : Nat) (l : List Ed) (A1 : Option Addr) (c1 : Nat) (r : List (List Int)) (w : World) (hr : Kd.C k89 w A l.length l) (hc : l.length ≤ c) (hr1 : Kd.C (Kd.slice 3 (Kd.int .i64)) w A1 r.length r) (hc1 : r.length ≤ c1)
   (cd : List Int) (e : Int) (h1 : tangramlaw21_copied.f k n l r = some (n, l, r)) (h2 : canon_Code.f k n l r = some (cd, e))
   (he : e ≠ 0) (hcd : cd = []) :
   Calls Try.prog 10 #[.agg #[.int .i64 n, .slice A l.length c], .slice A1 r.length c1] w fun e w' => e = .returned (.bool true) ∧ Below w.heap.size w w' := by
 have t1 : (e != 0) = true := bne_iff_ne.2 he
 have t2 : ((cd.length : Int) == 0) = true := by rw [hcd]; rfl
 clear he hcd
 have HX := Aside0.mk (heap_last w (.cells #[.int .i64 n, .slice A l.length c] 24 (0, 0)))
 have HB : Aside0 (Below w.heap.size w (w.alloc (.cells #[.int .i64 n, .slice A l.length c] 24 (0, 0)))) := ⟨(Below.refl _ _).alloc (Nat.le_refl _) _⟩
 have HRR := Aside0.mk hr
 have HR1 := Aside0.mk hr1
 have H1 := Aside0.mk h1
 have H2 := Aside0.mk h2
 have HCC := Aside0.mk hc
 have HCC1 := Aside0.mk hc1
 clear hr hr1 h1 h2 hc hc1
 go_enter Try.func10, Try.ntmps10
 go_wp2_with fail
 obtain ⟨b1, hb1⟩ : ∃ b1, b1 = w.heap.size := ⟨_, rfl⟩
 rw [← hb1] at HX ⊢
 clear hb1
 refine (tangramlaw21_wakes.calls true _ rfl).mono ?_
 rintro e1 w1 ⟨rfl, hb⟩
 have HB1 := Aside0.mk (HB.out.trans (hb.mono HB.out.size))
 have HX1 := Aside0.mk ((hb.block _ (lt_of HX.out)).trans HX.out)
 clear hb HB HX
 have x0 : w1.cell? ⟨b1, 0, none⟩ = some (.int .i64 n) := heap_cell HX1.out rfl
 have x1 : w1.cell? ⟨b1, 1, none⟩ = some (.slice A l.length c) := heap_cell HX1.out rfl
 go_wp2_with fail
 clear x0 x1 HX1
 refine (tangramlaw21_copied.calls k n A c l A1 c1 r n l r w1 (Kd.C_below HRR.out HB1.out) HCC.out (Kd.C_below HR1.out HB1.out) HCC1.out H1.out).mono ?_
 rintro e2 w2 ⟨v1, v2, rfl, hL, hS, hb⟩
 obtain ⟨A2, c2, rfl, hc2, hL⟩ := Kd.R_reads hL
 obtain ⟨A3, c3, rfl, hc3, hS⟩ := Kd.S_reads hS
 have HGL := Aside0.mk hc2
 have HRL := Aside0.mk hc3
 have HB2 := Aside0.mk (HB1.out.trans (hb.mono HB1.out.size))
 clear hb hc2 hc3 HB1
 obtain ⟨w3, hw3⟩ : ∃ w3, w3 = w2.alloc (.cells #[.int .i64 n, .slice A2 l.length c2] 24 (0, 0)) := ⟨_, rfl⟩
 have hb : Below w2.heap.size w2 w3 := by rw [hw3]; exact (Below.refl _ _).alloc (Nat.le_refl _) _
 obtain ⟨b2, hb2⟩ : ∃ b2, b2 = w2.heap.size := ⟨_, rfl⟩
 have HB := Aside0.mk (HB2.out.trans (hb.mono HB2.out.size))
 have HY : Aside0 (w3.heap[b2]? = some (.cells #[.int .i64 n, .slice A2 l.length c2] 24 (0, 0))) := ⟨by rw [hw3, hb2]; exact heap_last _ _⟩
 have HG := Aside0.mk (Kd.C_below hL hb)
 have HR := Aside0.mk (Kd.C_below hS hb)
 clear hb HB2 hL hS
 go_upto_region 4 with (fail)
 rw [← hb2, ← hw3]
 clear hb2 hw3
 have y0 : w3.cell? ⟨b2, 0, none⟩ = some (.int .i64 n) := heap_cell HY.out rfl
 have y1 : w3.cell? ⟨b2, 1, none⟩ = some (.slice A2 l.length c2) := heap_cell HY.out rfl
 go_wp2_with fail
 clear y0 y1
 refine (canon_Code.calls k n A2 c2 l A3 c3 r cd e w3 HG.out HGL.out HR.out HRL.out H2.out).mono ?_
 rintro e' w4 ⟨vv, rfl, hS, hb⟩
 replace HB := Aside0.mk (HB.out.trans (hb.mono HB.out.size))
 replace HY := Aside0.mk ((hb.block _ (lt_of HY.out)).trans HY.out)
 replace HG := Aside0.mk (Kd.C_below HG.out hb)
 replace HR := Aside0.mk (Kd.C_below HR.out hb)
 (try replace HT := Aside0.mk (Kd.C_below HT.out hb))
 (try replace HV1 := Aside0.mk (Kd.C_below HV1.out hb))
 (try replace HV2 := Aside0.mk (Kd.C_below HV2.out hb))
 (try replace HV3 := Aside0.mk (Kd.C_below HV3.out hb))
 obtain ⟨A4, c4, rfl, hcv, hS⟩ := Kd.R_reads hS
 have HV1 := Aside0.mk hS
 have HL1 := Aside0.mk hcv
 clear hb hS hcv
 go_wp2_with fail
 go_ret
 exact ⟨by simp, HB.out⟩
set_option maxHeartbeats 4000000 in
set_option maxRecDepth 100000 in
theorem mirror_ok (k : Nat) (n : Int) (A : Option Addr) (c : Nat) (l : List Ed) (A1 : Option Addr) (c1 : Nat) (r : List (List Int)) (w : World) (hr : Kd.C k89 w A l.length l) (hc : l.length ≤ c) (hr1 : Kd.C (Kd.slice 3 (Kd.int .i64)) w A1 r.length r) (hc1 : r.length ≤ c1)
   (cd : List Int) (e : Int) (h1 : tangramlaw21_copied.f k n l r = some (n, l, r)) (h2 : canon_Code.f k n l r = some (cd, e))
   {rt rm : List (List Int)} {cm : List Int} {o1 o2 : List Int} {z : Bool} {q : Int} (h3 : rot_Mirror.f k r = some rt) (h4 : canon_Code.f k n l rt = some (cm, 0)) (h5 : rot_Mirror.f k rt = some rm) (h6 : canon_Code.f k n l rm = some (cd, 0)) (h7 : canon_Match.f k n l r n l rt = some (o1, z, 0)) (h8 : canon_Match.f k n l rt n l r = some (o2, z, 0)) (h9 : canon_Turns.f k n l r = some (q, 0)) (h10 : canon_Turns.f k n l rt = some (q, 0)) (h11 : tangramref03_SameInts.f k cd cm = some z) (h12 : tangramref03_SameInts.f k cd cd = some true) (he : e = 0) :
   Calls Try.prog 10 #[.agg #[.int .i64 n, .slice A l.length c], .slice A1 r.length c1] w fun e w' => e = .returned (.bool true) ∧ Below w.heap.size w w' := by
 have t1 : (e != 0) = false := bne_eq_false_iff_eq.2 he
 have H3 := Aside0.mk h3
 have H4 := Aside0.mk h4
 have H5 := Aside0.mk h5
 have H6 := Aside0.mk h6
 have H7 := Aside0.mk h7
 have H8 := Aside0.mk h8
 have H9 := Aside0.mk h9
 have H10 := Aside0.mk h10
 have H11 := Aside0.mk h11
 have H12 := Aside0.mk h12
 clear h3 h4 h5 h6 h7 h8 h9 h10 h11 h12 he
 have HX := Aside0.mk (heap_last w (.cells #[.int .i64 n, .slice A l.length c] 24 (0, 0)))
 have HB : Aside0 (Below w.heap.size w (w.alloc (.cells #[.int .i64 n, .slice A l.length c] 24 (0, 0)))) := ⟨(Below.refl _ _).alloc (Nat.le_refl _) _⟩
 have HRR := Aside0.mk hr
 have HR1 := Aside0.mk hr1
 have H1 := Aside0.mk h1
 have H2 := Aside0.mk h2
 have HCC := Aside0.mk hc
 have HCC1 := Aside0.mk hc1
 clear hr hr1 h1 h2 hc hc1
 go_enter Try.func10, Try.ntmps10
 go_wp2_with fail
 obtain ⟨b1, hb1⟩ : ∃ b1, b1 = w.heap.size := ⟨_, rfl⟩
 rw [← hb1] at HX ⊢
 clear hb1
 refine (tangramlaw21_wakes.calls true _ rfl).mono ?_
 rintro e1 w1 ⟨rfl, hb⟩
 have HB1 := Aside0.mk (HB.out.trans (hb.mono HB.out.size))
 have HX1 := Aside0.mk ((hb.block _ (lt_of HX.out)).trans HX.out)
 clear hb HB HX
 have x0 : w1.cell? ⟨b1, 0, none⟩ = some (.int .i64 n) := heap_cell HX1.out rfl
 have x1 : w1.cell? ⟨b1, 1, none⟩ = some (.slice A l.length c) := heap_cell HX1.out rfl
 go_wp2_with fail
 clear x0 x1 HX1
 refine (tangramlaw21_copied.calls k n A c l A1 c1 r n l r w1 (Kd.C_below HRR.out HB1.out) HCC.out (Kd.C_below HR1.out HB1.out) HCC1.out H1.out).mono ?_
 rintro e2 w2 ⟨v1, v2, rfl, hL, hS, hb⟩
 obtain ⟨A2, c2, rfl, hc2, hL⟩ := Kd.R_reads hL
 obtain ⟨A3, c3, rfl, hc3, hS⟩ := Kd.S_reads hS
 have HGL := Aside0.mk hc2
 have HRL := Aside0.mk hc3
 have HB2 := Aside0.mk (HB1.out.trans (hb.mono HB1.out.size))
 clear hb hc2 hc3 HB1
 obtain ⟨w3, hw3⟩ : ∃ w3, w3 = w2.alloc (.cells #[.int .i64 n, .slice A2 l.length c2] 24 (0, 0)) := ⟨_, rfl⟩
 have hb : Below w2.heap.size w2 w3 := by rw [hw3]; exact (Below.refl _ _).alloc (Nat.le_refl _) _
 obtain ⟨b2, hb2⟩ : ∃ b2, b2 = w2.heap.size := ⟨_, rfl⟩
 have HB := Aside0.mk (HB2.out.trans (hb.mono HB2.out.size))
 have HY : Aside0 (w3.heap[b2]? = some (.cells #[.int .i64 n, .slice A2 l.length c2] 24 (0, 0))) := ⟨by rw [hw3, hb2]; exact heap_last _ _⟩
 have HG := Aside0.mk (Kd.C_below hL hb)
 have HR := Aside0.mk (Kd.C_below hS hb)
 clear hb HB2 hL hS
 go_upto_region 4 with (fail)
 rw [← hb2, ← hw3]
 clear hb2 hw3
 have y0 : w3.cell? ⟨b2, 0, none⟩ = some (.int .i64 n) := heap_cell HY.out rfl
 have y1 : w3.cell? ⟨b2, 1, none⟩ = some (.slice A2 l.length c2) := heap_cell HY.out rfl
 go_wp2_with fail
 clear y0 y1
 refine (canon_Code.calls k n A2 c2 l A3 c3 r cd e w3 HG.out HGL.out HR.out HRL.out H2.out).mono ?_
 rintro e' w4 ⟨vv, rfl, hS, hb⟩
 replace HB := Aside0.mk (HB.out.trans (hb.mono HB.out.size))
 replace HY := Aside0.mk ((hb.block _ (lt_of HY.out)).trans HY.out)
 replace HG := Aside0.mk (Kd.C_below HG.out hb)
 replace HR := Aside0.mk (Kd.C_below HR.out hb)
 (try replace HT := Aside0.mk (Kd.C_below HT.out hb))
 (try replace HV1 := Aside0.mk (Kd.C_below HV1.out hb))
 (try replace HV2 := Aside0.mk (Kd.C_below HV2.out hb))
 (try replace HV3 := Aside0.mk (Kd.C_below HV3.out hb))
 obtain ⟨A4, c4, rfl, hcv, hS⟩ := Kd.R_reads hS
 have HV1 := Aside0.mk hS
 have HL1 := Aside0.mk hcv
 clear hb hS hcv
 go_wp2_with fail
 refine (rot_Mirror.calls k A3 c3 r rt w4 HR.out HRL.out H3.out).mono ?_
 rintro e' w5 ⟨vv, rfl, hS, hb⟩
 replace HB := Aside0.mk (HB.out.trans (hb.mono HB.out.size))
 replace HY := Aside0.mk ((hb.block _ (lt_of HY.out)).trans HY.out)
 replace HG := Aside0.mk (Kd.C_below HG.out hb)
 replace HR := Aside0.mk (Kd.C_below HR.out hb)
 (try replace HT := Aside0.mk (Kd.C_below HT.out hb))
 (try replace HV1 := Aside0.mk (Kd.C_below HV1.out hb))
 (try replace HV2 := Aside0.mk (Kd.C_below HV2.out hb))
 (try replace HV3 := Aside0.mk (Kd.C_below HV3.out hb))
 obtain ⟨A5, c5, rfl, hcv, hS⟩ := Kd.S_reads hS
 have HT := Aside0.mk hS
 have HTL := Aside0.mk hcv
 clear hb hS hcv
 have y0 : w5.cell? ⟨b2, 0, none⟩ = some (.int .i64 n) := heap_cell HY.out rfl
 have y1 : w5.cell? ⟨b2, 1, none⟩ = some (.slice A2 l.length c2) := heap_cell HY.out rfl
 go_wp2_with fail
 clear y0 y1
 refine (canon_Code.calls k n A2 c2 l A5 c5 rt cm 0 w5 HG.out HGL.out HT.out HTL.out H4.out).mono ?_
 rintro e' w6 ⟨vv, rfl, hS, hb⟩
 replace HB := Aside0.mk (HB.out.trans (hb.mono HB.out.size))
 replace HY := Aside0.mk ((hb.block _ (lt_of HY.out)).trans HY.out)
 replace HG := Aside0.mk (Kd.C_below HG.out hb)
 replace HR := Aside0.mk (Kd.C_below HR.out hb)
 (try replace HT := Aside0.mk (Kd.C_below HT.out hb))
 (try replace HV1 := Aside0.mk (Kd.C_below HV1.out hb))
 (try replace HV2 := Aside0.mk (Kd.C_below HV2.out hb))
 (try replace HV3 := Aside0.mk (Kd.C_below HV3.out hb))
 obtain ⟨A6, c6, rfl, hcv, hS⟩ := Kd.R_reads hS
 have HV2 := Aside0.mk hS
 have HL2 := Aside0.mk hcv
 clear hb hS hcv
 go_upto_region 9 with (fail)
 have hb : Below w6.heap.size w6 w6.drew := (Below.refl _ _).drew
 replace HB := Aside0.mk (HB.out.trans (hb.mono HB.out.size))
 replace HY := Aside0.mk ((hb.block _ (lt_of HY.out)).trans HY.out)
 replace HG := Aside0.mk (Kd.C_below HG.out hb)
 replace HR := Aside0.mk (Kd.C_below HR.out hb)
 (try replace HT := Aside0.mk (Kd.C_below HT.out hb))
 (try replace HV1 := Aside0.mk (Kd.C_below HV1.out hb))
 (try replace HV2 := Aside0.mk (Kd.C_below HV2.out hb))
 (try replace HV3 := Aside0.mk (Kd.C_below HV3.out hb))
 clear hb
 have x0 : w6.drew.cell? ⟨b2, 0, none⟩ = some (.int .i64 n) := heap_cell HY.out rfl
 have x1 : w6.drew.cell? ⟨b2, 1, none⟩ = some (.slice A2 l.length c2) := heap_cell HY.out rfl
 refine start_ (n := 9) (S := fun w' => w'.cell? ⟨b2, 0, none⟩ = some (.int .i64 n) ∧ w'.cell? ⟨b2, 1, none⟩ = some (.slice A2 l.length c2)) (ds := [3]) #[false, false, false, false, false, false, false, false, false] (by kernel_rfl) rfl rfl ⟨x0, x1⟩ (fun hHeld => ?_)
 refine pure_ (i := 1) (N := some 55) (v := ?_) (a' := ?_) #[false, true, false, false, false, false, false, false, false] rfl rfl (by kernel_rfl) (fun _ _ _ h => h) (Or.inl ⟨by rfl, ?_⟩) ?_ ?_
 rotate_left
 · intro w'
   go_simp
   with_reducible rfl
 rotate_left
 · simp only [Act.put, List.setIfInBounds_toArray, List.set_cons_zero, List.set_cons_succ, i64_w, i32_w]
   rfl
 refine take_ (i := 0) (N := some 54) (v := ?_) (a' := ?_) #[true, true, false, false, false, false, false, false, false] rfl rfl (by kernel_rfl) (fun _ _ _ h => h) (Or.inl ⟨by rfl, ?_⟩) hHeld ?_ ?_
 rotate_left
 · rintro w' ⟨s0, s1⟩
   go_simp
   with_reducible rfl
 rotate_left
 · simp only [Act.put, List.setIfInBounds_toArray, List.set_cons_zero, List.set_cons_succ, i64_w, i32_w]
   rfl
 refine one_ (i := 2) (N := some 56) #[true, true, true, false, false, false, false, false, false] rfl rfl (by kernel_rfl) (by decide) (fun K hK => ?_)
 refine goes_ Try.func33 (by kernel_rfl) rfl #[.slice A5 rt.length c5] (by rfl) rfl rfl (by simp only [List.map_toArray, List.map_cons, List.map_nil]; rfl) ?_
 with_reducible refine (rot_Mirror.calls k A5 c5 rt rm _ HT.out HTL.out H5.out).mono ?_
 rintro e' w7 ⟨va, rfl, hR, hb⟩
 refine ⟨_, rfl, ?_⟩
 replace HB := Aside0.mk (HB.out.trans (hb.mono HB.out.size))
 replace HY := Aside0.mk ((hb.block _ (lt_of HY.out)).trans HY.out)
 replace HG := Aside0.mk (Kd.C_below HG.out hb)
 replace HR := Aside0.mk (Kd.C_below HR.out hb)
 replace HT := Aside0.mk (Kd.C_below HT.out hb)
 replace HV1 := Aside0.mk (Kd.C_below HV1.out hb)
 replace HV2 := Aside0.mk (Kd.C_below HV2.out hb)
 obtain ⟨Aa, ca, rfl, hca, hR⟩ := Kd.S_reads hR
 have HM := Aside0.mk hR
 have HML := Aside0.mk hca
 clear hb hR hca
 refine hK.out _ _ ⟨heap_cell HY.out rfl, heap_cell HY.out rfl⟩ (fun hHeld => ?_)
 clear hK K
 refine norm_ (a' := ?_) ?_ ?_
 rotate_left
 · show Act.put _ (some 56) _ = _
   simp only [Act.put, List.setIfInBounds_toArray, List.set_cons_zero, List.set_cons_succ, i64_w, i32_w]
   rfl
 refine last_ (i := 3) (N := some 57) #[true, true, true, true, false, false, false, false, false] rfl rfl (by kernel_rfl) (by decide) (fun K hK => ?_)
 refine goes_ Try.func16 (by kernel_rfl) rfl #[.agg #[.int .i64 n, .slice A2 l.length c2], .slice Aa rm.length ca] (by rfl) rfl rfl (by simp only [List.map_toArray, List.map_cons, List.map_nil]; rfl) ?_
 with_reducible refine (canon_Code.calls k n A2 c2 l Aa ca rm cd 0 _ HG.out HGL.out HM.out HML.out H6.out).mono ?_
 rintro e' w8 ⟨vb, rfl, hR, hb⟩
 refine ⟨_, rfl, ?_⟩
 replace HB := Aside0.mk (HB.out.trans (hb.mono HB.out.size))
 replace HY := Aside0.mk ((hb.block _ (lt_of HY.out)).trans HY.out)
 replace HG := Aside0.mk (Kd.C_below HG.out hb)
 replace HR := Aside0.mk (Kd.C_below HR.out hb)
 replace HT := Aside0.mk (Kd.C_below HT.out hb)
 replace HV1 := Aside0.mk (Kd.C_below HV1.out hb)
 replace HV2 := Aside0.mk (Kd.C_below HV2.out hb)
 obtain ⟨A8, c8, rfl, hcb, hR⟩ := Kd.R_reads hR
 have HV3 := Aside0.mk hR
 have HL3 := Aside0.mk hcb
 clear hb hR hcb HM HML
 refine hK.out _ _ ?_
 clear hK K
 refine norm_ (a' := ?_) ?_ ?_
 rotate_left
 · show Act.put _ (some 57) _ = _
   simp only [Act.put, List.setIfInBounds_toArray, List.set_cons_zero, List.set_cons_succ, i64_w, i32_w]
   rfl
 refine pure_ (i := 4) (N := some 53) (v := ?_) (a' := ?_) #[true, true, true, true, true, false, false, false, false] rfl rfl (by kernel_rfl) (fun _ _ _ h => h) (Or.inl ⟨by rfl, ?_⟩) ?_ ?_
 rotate_left
 · intro w'
   go_simp
   with_reducible rfl
 rotate_left
 · simp only [Act.put, List.setIfInBounds_toArray, List.set_cons_zero, List.set_cons_succ, i64_w, i32_w]
   rfl
 refine pure_ (i := 5) (N := some 58) (v := ?_) (a' := ?_) #[true, true, true, true, true, true, false, false, false] rfl rfl (by kernel_rfl) (fun _ _ _ h => h) (Or.inl ⟨by rfl, ?_⟩) ?_ ?_
 rotate_left
 · intro w'
   go_simp
   with_reducible rfl
 rotate_left
 · simp only [Act.put, List.setIfInBounds_toArray, List.set_cons_zero, List.set_cons_succ, i64_w, i32_w]
   rfl
 refine pure_ (i := 6) (N := some 59) (v := ?_) (a' := ?_) #[true, true, true, true, true, true, true, false, false] rfl rfl (by kernel_rfl) (fun _ _ _ h => h) (Or.inl ⟨by rfl, ?_⟩) ?_ ?_
 rotate_left
 · intro w'
   go_simp
   with_reducible rfl
 rotate_left
 · simp only [Act.put, List.setIfInBounds_toArray, List.set_cons_zero, List.set_cons_succ, i64_w, i32_w]
   rfl
 refine pure_ (i := 7) (N := some 12) (v := ?_) (a' := ?_) #[true, true, true, true, true, true, true, true, false] rfl rfl (by kernel_rfl) (fun _ _ _ h => h) (Or.inl ⟨by rfl, ?_⟩) ?_ ?_
 rotate_left
 · intro w'
   go_simp
   with_reducible rfl
 rotate_left
 · simp only [Act.put, List.setIfInBounds_toArray, List.set_cons_zero, List.set_cons_succ, i64_w, i32_w]
   rfl
 refine pure_ (i := 8) (N := some 13) (v := ?_) (a' := ?_) #[true, true, true, true, true, true, true, true, true] rfl rfl (by kernel_rfl) (fun _ _ _ h => h) (Or.inl ⟨by rfl, ?_⟩) ?_ ?_
 rotate_left
 · intro w'
   go_simp
   with_reducible rfl
 rotate_left
 · simp only [Act.put, List.setIfInBounds_toArray, List.set_cons_zero, List.set_cons_succ, i64_w, i32_w]
   rfl
 refine done_ (by kernel_rfl) ?_
 have y0 : w8.cell? ⟨b2, 0, none⟩ = some (.int .i64 n) := heap_cell HY.out rfl
 have y1 : w8.cell? ⟨b2, 1, none⟩ = some (.slice A2 l.length c2) := heap_cell HY.out rfl
 go_wp2_with fail
 clear y0 y1
 refine (canon_Match.calls k n A2 c2 l A3 c3 r n A2 c2 l A5 c5 rt o1 z 0 w8 HG.out HGL.out HR.out HRL.out HG.out HGL.out HT.out HTL.out H7.out).mono ?_
 rintro e' w9 ⟨vv, rfl, hS, hb⟩
 replace HB := Aside0.mk (HB.out.trans (hb.mono HB.out.size))
 replace HY := Aside0.mk ((hb.block _ (lt_of HY.out)).trans HY.out)
 replace HG := Aside0.mk (Kd.C_below HG.out hb)
 replace HR := Aside0.mk (Kd.C_below HR.out hb)
 (try replace HT := Aside0.mk (Kd.C_below HT.out hb))
 (try replace HV1 := Aside0.mk (Kd.C_below HV1.out hb))
 (try replace HV2 := Aside0.mk (Kd.C_below HV2.out hb))
 (try replace HV3 := Aside0.mk (Kd.C_below HV3.out hb))
 obtain ⟨A9, c9, rfl, hcv, hS⟩ := Kd.R_reads hS
 have HW9 := Aside0.mk hS
 have HM9 := Aside0.mk hcv
 clear hb hS hcv
 clear HW9 HM9
 have y0 : w9.cell? ⟨b2, 0, none⟩ = some (.int .i64 n) := heap_cell HY.out rfl
 have y1 : w9.cell? ⟨b2, 1, none⟩ = some (.slice A2 l.length c2) := heap_cell HY.out rfl
 go_wp2_with fail
 clear y0 y1
 refine (canon_Match.calls k n A2 c2 l A5 c5 rt n A2 c2 l A3 c3 r o2 z 0 w9 HG.out HGL.out HT.out HTL.out HG.out HGL.out HR.out HRL.out H8.out).mono ?_
 rintro e' w10 ⟨vv, rfl, hS, hb⟩
 replace HB := Aside0.mk (HB.out.trans (hb.mono HB.out.size))
 replace HY := Aside0.mk ((hb.block _ (lt_of HY.out)).trans HY.out)
 replace HG := Aside0.mk (Kd.C_below HG.out hb)
 replace HR := Aside0.mk (Kd.C_below HR.out hb)
 (try replace HT := Aside0.mk (Kd.C_below HT.out hb))
 (try replace HV1 := Aside0.mk (Kd.C_below HV1.out hb))
 (try replace HV2 := Aside0.mk (Kd.C_below HV2.out hb))
 (try replace HV3 := Aside0.mk (Kd.C_below HV3.out hb))
 obtain ⟨A10, c10, rfl, hcv, hS⟩ := Kd.R_reads hS
 have HW10 := Aside0.mk hS
 have HM10 := Aside0.mk hcv
 clear hb hS hcv
 clear HW10 HM10
 have y0 : w10.cell? ⟨b2, 0, none⟩ = some (.int .i64 n) := heap_cell HY.out rfl
 have y1 : w10.cell? ⟨b2, 1, none⟩ = some (.slice A2 l.length c2) := heap_cell HY.out rfl
 go_wp2_with fail
 clear y0 y1
 refine (canon_Turns.calls k n A2 c2 l A3 c3 r q 0 w10 HG.out HGL.out HR.out HRL.out H9.out).mono ?_
 rintro e' w11 ⟨rfl, hb⟩
 replace HB := Aside0.mk (HB.out.trans (hb.mono HB.out.size))
 replace HY := Aside0.mk ((hb.block _ (lt_of HY.out)).trans HY.out)
 replace HG := Aside0.mk (Kd.C_below HG.out hb)
 replace HR := Aside0.mk (Kd.C_below HR.out hb)
 (try replace HT := Aside0.mk (Kd.C_below HT.out hb))
 (try replace HV1 := Aside0.mk (Kd.C_below HV1.out hb))
 (try replace HV2 := Aside0.mk (Kd.C_below HV2.out hb))
 (try replace HV3 := Aside0.mk (Kd.C_below HV3.out hb))
 clear hb
 have y0 : w11.cell? ⟨b2, 0, none⟩ = some (.int .i64 n) := heap_cell HY.out rfl
 have y1 : w11.cell? ⟨b2, 1, none⟩ = some (.slice A2 l.length c2) := heap_cell HY.out rfl
 go_wp2_with fail
 clear y0 y1
 refine (canon_Turns.calls k n A2 c2 l A5 c5 rt q 0 w11 HG.out HGL.out HT.out HTL.out H10.out).mono ?_
 rintro e' w12 ⟨rfl, hb⟩
 replace HB := Aside0.mk (HB.out.trans (hb.mono HB.out.size))
 replace HY := Aside0.mk ((hb.block _ (lt_of HY.out)).trans HY.out)
 replace HG := Aside0.mk (Kd.C_below HG.out hb)
 replace HR := Aside0.mk (Kd.C_below HR.out hb)
 (try replace HT := Aside0.mk (Kd.C_below HT.out hb))
 (try replace HV1 := Aside0.mk (Kd.C_below HV1.out hb))
 (try replace HV2 := Aside0.mk (Kd.C_below HV2.out hb))
 (try replace HV3 := Aside0.mk (Kd.C_below HV3.out hb))
 clear hb
 go_wp2_with fail
 refine (tangramref03_SameInts.calls k A4 c4 cd A6 c6 cm z w12 HV1.out HL1.out HV2.out HL2.out H11.out).mono ?_
 rintro e' w13 ⟨rfl, hd⟩
 have hb := hd.below
 replace HB := Aside0.mk (HB.out.trans (hb.mono HB.out.size))
 replace HY := Aside0.mk ((hb.block _ (lt_of HY.out)).trans HY.out)
 replace HG := Aside0.mk (Kd.C_below HG.out hb)
 replace HR := Aside0.mk (Kd.C_below HR.out hb)
 (try replace HT := Aside0.mk (Kd.C_below HT.out hb))
 (try replace HV1 := Aside0.mk (Kd.C_below HV1.out hb))
 (try replace HV2 := Aside0.mk (Kd.C_below HV2.out hb))
 (try replace HV3 := Aside0.mk (Kd.C_below HV3.out hb))
 clear hb hd
 have t2 : (z == z) = true := beq_self_eq_true z
 have t3 : (q == q) = true := beq_self_eq_true q
 go_wp2_with fail
 refine (tangramref03_SameInts.calls k A8 c8 cd A4 c4 cd true w13 HV3.out HL3.out HV1.out HL1.out H12.out).mono ?_
 rintro e' w14 ⟨rfl, hd⟩
 have hb := hd.below
 replace HB := Aside0.mk (HB.out.trans (hb.mono HB.out.size))
 replace HY := Aside0.mk ((hb.block _ (lt_of HY.out)).trans HY.out)
 replace HG := Aside0.mk (Kd.C_below HG.out hb)
 replace HR := Aside0.mk (Kd.C_below HR.out hb)
 (try replace HT := Aside0.mk (Kd.C_below HT.out hb))
 (try replace HV1 := Aside0.mk (Kd.C_below HV1.out hb))
 (try replace HV2 := Aside0.mk (Kd.C_below HV2.out hb))
 (try replace HV3 := Aside0.mk (Kd.C_below HV3.out hb))
 clear hb hd
 go_wp2_with fail
 go_ret
 exact ⟨by simp, HB.out⟩
theorem CanonMirror (a0_0 : Int) (A0_1 : Option Addr) (c0_1 : Nat) (l0_1 : List Ed) (A1 : Option Addr) (c1 : Nat) (l1 : List (List Int)) (w : World) (hr0_1 : Kd.C k89 w A0_1 l0_1.length l0_1) (hc0_1 : l0_1.length ≤ c0_1) (hr1 : Kd.C (Kd.slice 3 (Kd.int .i64)) w A1 l1.length l1) (hc1 : l1.length ≤ c1)
   (g0 : Open.I64 a0_0 ∧ l0_1.length * 16 ≤ 140737488351232 ∧ ∀ x ∈ l0_1, Open.I64 x.f0 ∧ Open.I64 x.f1) (g1 : l1.length * 24 ≤ 140737488351232 ∧ ∀ x ∈ l1, x.length * 8 ≤ 140737488351232 ∧ ∀ y ∈ x, Open.I64 y) :
   Calls Try.prog 10 #[.agg #[.int .i64 a0_0, .slice A0_1 l0_1.length c0_1], .slice A1 l1.length c1] w fun e w' => e = .returned (.bool true) ∧ Below w.heap.size w w' := by
 have hs : Small l1 := ⟨g1.1, fun l hl => (g1.2 l hl).1⟩
 obtain ⟨K1, q1⟩ := copied_ev a0_0 l0_1 l1 (by omega) hs
 cases case a0_0 l0_1 l1 hs with
 | bad v e h0 h1 hl hc hf =>
   obtain ⟨K2, q2⟩ := code_bad hl (by rw [if_neg h0]; exact h0)
   exact mirror_bad (K1 + K2) a0_0 A0_1 c0_1 l0_1 A1 c1 l1 w hr0_1 hc0_1 hr1 hc1 [] _ (q1 _ (by omega)) (q2 _ (by omega)) (by rw [if_neg h0]; exact h0) rfl
 | apart hg hl hc hf =>
   obtain ⟨K2, q2⟩ := code_bad hl (by decide)
   exact mirror_bad (K1 + K2) a0_0 A0_1 c0_1 l0_1 A1 c1 l1 w hr0_1 hc0_1 hr1 hc1 [] _ (q1 _ (by omega)) (q2 _ (by omega)) (by decide) rfl
 | fine N hN hm hp h0 hl hc hf =>
   subst hN
   have hst : Small (mir l1) := hs.rev.turn
   have hsm : Small (mir (mir l1)) := hst.rev.turn
   obtain ⟨K2, q2⟩ := code_ok hm hs hp h0
   obtain ⟨K3, q3⟩ := mirror_ev hs
   obtain ⟨K4, q4⟩ := code_ok hm.mir hst hp h0
   obtain ⟨K5, q5⟩ := mirror_ev hst
   have o6 := code_ok hm.mir.mir hsm hp h0
   have e6 : codeOf N l0_1 (mir (mir l1)) = codeOf N l0_1 l1 := by
     unfold codeOf bestOf
     rw [mir_codes hm]
   rw [e6] at o6
   obtain ⟨K6, q6⟩ := o6
   obtain ⟨o1, K7, q7⟩ := match_ok hm hm.mir hs hst hp h0
   have o8 := match_ok hm.mir hm hst hs hp h0
   rw [show decide (codeOf N l0_1 (mir l1) = codeOf N l0_1 l1) = decide (codeOf N l0_1 l1 = codeOf N l0_1 (mir l1)) from decide_eq_decide.2 ⟨Eq.symm, Eq.symm⟩] at o8
   obtain ⟨o2, K8, q8⟩ := o8
   obtain ⟨K9, q9⟩ := turns_ok hm hs hp h0
   have o10 := turns_ok hm.mir hst hp h0
   rw [mir_turns hm hp h0] at o10
   obtain ⟨K10, q10⟩ := o10
   obtain ⟨K11, q11⟩ := ints_ev (a := codeOf N l0_1 l1) (b := codeOf N l0_1 (mir l1)) (seen_cd hm _)
   obtain ⟨K12, q12⟩ := ints_same (a := codeOf N l0_1 l1) (seen_cd hm _)
   exact mirror_ok (K1 + K2 + K3 + K4 + K5 + K6 + K7 + K8 + K9 + K10 + K11 + K12) (N : Int) A0_1 c0_1 l0_1 A1 c1 l1 w hr0_1 hc0_1 hr1 hc1 _ 0 (q1 _ (by omega)) (q2 _ (by omega)) (q3 _ (by omega)) (q4 _ (by omega)) (q5 _ (by omega)) (q6 _ (by omega)) (q7 _ (by omega)) (q8 _ (by omega)) (q9 _ (by omega)) (q10 _ (by omega)) (q11 _ (by omega)) (q12 _ (by omega)) rfl
end Go.Proofs.Yteeihjpnhjnknaa.Rot
