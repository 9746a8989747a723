/- DERIVED. Texts of this seat, one behind the other: lemmas and walks that the statement CanonAgain needs. No condition. -/
import Derived.Test.YteeihjpnhjnknaaCCanonAgaing
import Derived.Test.YteeihjpnhjnknaaCCanonAgainf
namespace Go.Proofs.Yteeihjpnhjnknaa.Rot
open Go.RowKit Go.Proofs.YteeihjpnhjnknaaW.PrintWords Go.Proofs.YteeihjpnhjnknaaW.PrintLast Go.Proofs.YteeihjpnhjnknaaW.PrintMore Go.Proofs.Yteeihjpnhjnknaa.GAll Go.Proofs.Yteeihjpnhjnknaa.Mem Go.Proofs.Yteeihjpnhjnknaa.Seen Go.Proofs.Yteeihjpnhjnknaa.Mk
set_option linter.unusedVariables false
set_option linter.unusedSimpArgs false
structure Anew (k N : Nat) (l : List Ed) (r : List (List Int)) (cd a : List Int) (rows r' : List (List Int)) (l2 : List Ed) (first : Int) : Prop where
 code0 : cd = rows.flatMap blk
 len : rows.length = N
 small : cd.length ≤ 20000000
 two : 2 ≤ cd.length
 hN : N ≤ 1048576
 inn : ∀ v j, v < N → j < (gl rows v).length → 0 ≤ gi (gl rows v) j ∧ gi (gl rows v) j < (N : Int)
 graph0 : l2 = eds (makeL (prsTo rows N 0))
 ml : (makeL (prsTo rows N 0)).length ≤ 4194304
 of : tangramref11_Of.f k (N : Int) l2 rows = some (r', 0, 0)
 half : tangramref11_Half.f k (N : Int) l2 0 (gi cd 1) = some first
 root : canon_Rooted.f k (N : Int) l2 r' first = some (cd, 0)
 code : canon_Code.f k (N : Int) l r = some (a, 0)
 code2 : canon_Code.f k (N : Int) l2 r' = some (a, 0)
 same : tangramref03_SameInts.f k cd cd = some true
 same2 : tangramref03_SameInts.f k a a = some true
theorem again_at (k N : Nat) (A : Option Addr) (c : Nat) (l : List Ed) (r : List (List Int)) (cd a : List Int) (rows r' : List (List Int)) (l2 : List Ed) (first : Int) (w : World) (h : Anew k N l r cd a rows r' l2 first) (hr : Kd.C (Kd.int .i64) w A cd.length cd) (hc : cd.length ≤ c) :
   Calls Try.prog 23 #[.slice A cd.length c, .int .i64 (N : Int)] w fun e w' => ∃ (Al Ar : Option Addr) (cl cr : Nat), e = .returned (.tuple #[.agg #[.int .i64 (N : Int), .slice Al l2.length cl], .slice Ar r'.length cr, .bool true]) ∧ l2.length ≤ cl ∧ r'.length ≤ cr ∧ Kd.C k89 w' Al l2.length l2 ∧ Kd.C KR w' Ar r'.length r' ∧ Below w.heap.size w w' := by
 obtain ⟨h1, h2, h3, _, h5, h6, h7, h8, h9, _⟩ := h
 subst h1 h7
 exact again_calls k N A c rows r' w h2 hr hc h3 h5 h6 h8 h9
set_option maxHeartbeats 4000000 in
set_option maxRecDepth 100000 in
theorem again_walk (k : Nat) (n : Int) (A : Option Addr) (c : Nat) (l : List Ed) (A1 : Option Addr) (c1 : Nat) (r : List (List Int)) (root : Int) (w : World) (hr : Kd.C k89 w A l.length l) (hc : l.length ≤ c) (hr1 : Kd.C (Kd.slice 3 (Kd.int .i64)) w A1 r.length r) (hc1 : r.length ≤ c1)
   (cd : List Int) (e : Int) (h1 : tangramlaw21_copied.f k n l r = some (n, l, r)) (h2 : canon_Rooted.f k n l r root = some (cd, e)) (hbad : e ≠ 0 → cd = [])
   (hok : e = 0 → ∃ (N : Nat) (a : List Int) (rows r' : List (List Int)) (l2 : List Ed) (first : Int), n = N ∧ Anew k N l r cd a rows r' l2 first) :
   Calls Try.prog 7 #[.agg #[.int .i64 n, .slice A l.length c], .slice A1 r.length c1, .int .i64 root] w fun e w' => e = .returned (.bool true) ∧ Below w.heap.size w w' := by
 have HX := Aside0.mk (heap_last w (.cells #[.int .i64 n, .slice A l.length c] 24 (0, 0)))
 have HB : Aside0 (Below w.heap.size w (w.alloc (.cells #[.int .i64 n, .slice A l.length c] 24 (0, 0)))) := ⟨(Below.refl _ _).alloc (Nat.le_refl _) _⟩
 have HR := Aside0.mk hr
 have HR1 := Aside0.mk hr1
 have H1 := Aside0.mk h1
 have H2 := Aside0.mk h2
 have HBAD := Aside0.mk hbad
 have HOK := Aside0.mk hok
 have HCC := Aside0.mk hc
 have HCC1 := Aside0.mk hc1
 clear hr hr1 h1 h2 hc hc1 hbad hok
 go_enter Try.func7, Try.ntmps7
 go_wp2_with fail
 obtain ⟨b1, hb1⟩ : ∃ b1, b1 = w.heap.size := ⟨_, rfl⟩
 rw [← hb1] at HX ⊢
 have HBB := Aside0.mk hb1
 clear hb1
 refine (tangramlaw21_wakes.calls true _ rfl).mono ?_
 rintro e1 w1 ⟨rfl, hb⟩
 have HB1 := Aside0.mk (HB.out.trans (hb.mono HB.out.size))
 have HX1 := Aside0.mk ((hb.block _ (lt_of HX.out)).trans HX.out)
 clear hb HB HX
 have x0 : w1.cell? ⟨b1, 0, none⟩ = some (.int .i64 n) := heap_cell HX1.out rfl
 have x1 : w1.cell? ⟨b1, 1, none⟩ = some (.slice A l.length c) := heap_cell HX1.out rfl
 go_wp2_with fail
 clear x0 x1
 refine (tangramlaw21_copied.calls k n A c l A1 c1 r n l r w1 (Kd.C_below HR.out HB1.out) HCC.out (Kd.C_below HR1.out HB1.out) HCC1.out H1.out).mono ?_
 rintro e2 w2 ⟨v1, v2, rfl, hL, hS, hb⟩
 obtain ⟨A2, c2, rfl, hc2, hL⟩ := Kd.R_reads hL
 obtain ⟨A3, c3, rfl, hc3, hS⟩ := Kd.S_reads hS
 have HC2 := Aside0.mk hc2
 have HC3 := Aside0.mk hc3
 have HB2 := Aside0.mk (HB1.out.trans (hb.mono HB1.out.size))
 have HX2 := Aside0.mk ((hb.block _ (lt_of HX1.out)).trans HX1.out)
 clear hb hc2 hc3 HB1 HX1
 obtain ⟨w3, hw3⟩ : ∃ w3, w3 = w2.alloc (.cells #[.int .i64 n, .slice A2 l.length c2] 24 (0, 0)) := ⟨_, rfl⟩
 have hb : Below w2.heap.size w2 w3 := by rw [hw3]; exact (Below.refl _ _).alloc (Nat.le_refl _) _
 obtain ⟨b2, hb2⟩ : ∃ b2, b2 = w2.heap.size := ⟨_, rfl⟩
 have HB3 := Aside0.mk (HB2.out.trans (hb.mono HB2.out.size))
 have HX3 := Aside0.mk ((hb.block _ (lt_of HX2.out)).trans HX2.out)
 have HY3 : Aside0 (w3.heap[b2]? = some (.cells #[.int .i64 n, .slice A2 l.length c2] 24 (0, 0))) := ⟨by rw [hw3, hb2]; exact heap_last _ _⟩
 have HL3 := Aside0.mk (Kd.C_below hL hb)
 have HS3 := Aside0.mk (Kd.C_below hS hb)
 clear hb HB2 HX2 hL hS
 go_upto_region 4 with (fail)
 rw [← hb2, ← hw3]
 clear hb2 hw3
 have x0 : w3.cell? ⟨b1, 0, none⟩ = some (.int .i64 n) := heap_cell HX3.out rfl
 have x1 : w3.cell? ⟨b1, 1, none⟩ = some (.slice A l.length c) := heap_cell HX3.out rfl
 have y0 : w3.cell? ⟨b2, 0, none⟩ = some (.int .i64 n) := heap_cell HY3.out rfl
 have y1 : w3.cell? ⟨b2, 1, none⟩ = some (.slice A2 l.length c2) := heap_cell HY3.out rfl
 go_wp2_with fail
 clear x0 x1 y0 y1
 refine (canon_Rooted.calls k n A2 c2 l A3 c3 r root cd e w3 HL3.out HC2.out HS3.out HC3.out H2.out).mono ?_
 rintro e' w4 ⟨v4, rfl, hR, hb⟩
 obtain ⟨A4, c4, rfl, hc4, hR⟩ := Kd.R_reads hR
 have HC4 := Aside0.mk hc4
 have HV := Aside0.mk hR
 have HB := HB3
 have HX := HX3
 have HY := HY3
 have HL := HL3
 have HS := HS3
 replace HB := Aside0.mk (HB.out.trans (hb.mono HB.out.size))
 replace HX := Aside0.mk ((hb.block _ (lt_of HX.out)).trans HX.out)
 replace HY := Aside0.mk ((hb.block _ (lt_of HY.out)).trans HY.out)
 replace HL := Aside0.mk (Kd.C_below HL.out hb)
 replace HS := Aside0.mk (Kd.C_below HS.out hb)
 clear hb hR hc4 HB3 HX3 HY3 HL3 HS3 H1 H2
 by_cases he : e = 0
 rotate_left
 · have t1 : (e != 0) = true := bne_iff_ne.2 he
   obtain rfl := HBAD.out he
   clear he HBAD HOK
   go_wp2_with fail
   go_ret
   exact ⟨by simp, HB.out⟩
 have t1 : (e != 0) = false := bne_eq_false_iff_eq.2 he
 obtain ⟨N, a, rows, r', l2, first, rfl, hA⟩ := HOK.out he
 have HAN := Aside0.mk hA
 clear he HBAD HOK hA
 have x0 : w4.cell? ⟨b1, 0, none⟩ = some (.int .i64 (N : Int)) := heap_cell HX.out rfl
 go_wp2_with fail
 clear x0 t1
 refine (again_at k N A4 c4 l r cd a rows r' l2 first w4 HAN.out HV.out HC4.out).mono ?_
 rintro e' w5 ⟨Al, Ar, cl, cr, rfl, hcl, hcr, hG, hR2, hb⟩
 replace HB := Aside0.mk (HB.out.trans (hb.mono HB.out.size))
 replace HX := Aside0.mk ((hb.block _ (lt_of HX.out)).trans HX.out)
 replace HY := Aside0.mk ((hb.block _ (lt_of HY.out)).trans HY.out)
 replace HL := Aside0.mk (Kd.C_below HL.out hb)
 replace HS := Aside0.mk (Kd.C_below HS.out hb)
 replace HV := Aside0.mk (Kd.C_below HV.out hb)
 have HG := Aside0.mk hG
 have HR2 := Aside0.mk hR2
 have HCL := Aside0.mk hcl
 have HCR := Aside0.mk hcr
 clear hb hG hR2 hcl hcr
 obtain ⟨w6, hw6⟩ : ∃ w6, w6 = w5.alloc (.cells #[.int .i64 (N : Int), .slice Al l2.length cl] 24 (0, 0)) := ⟨_, rfl⟩
 have hb : Below w5.heap.size w5 w6 := by rw [hw6]; exact (Below.refl _ _).alloc (Nat.le_refl _) _
 obtain ⟨b3, hb3⟩ : ∃ b3, b3 = w5.heap.size := ⟨_, rfl⟩
 have HZ : Aside0 (w6.heap[b3]? = some (.cells #[.int .i64 (N : Int), .slice Al l2.length cl] 24 (0, 0))) := ⟨by rw [hw6, hb3]; exact heap_last _ _⟩
 replace HB := Aside0.mk (HB.out.trans (hb.mono HB.out.size))
 replace HX := Aside0.mk ((hb.block _ (lt_of HX.out)).trans HX.out)
 replace HY := Aside0.mk ((hb.block _ (lt_of HY.out)).trans HY.out)
 replace HL := Aside0.mk (Kd.C_below HL.out hb)
 replace HS := Aside0.mk (Kd.C_below HS.out hb)
 replace HV := Aside0.mk (Kd.C_below HV.out hb)
 replace HG := Aside0.mk (Kd.C_below HG.out hb)
 replace HR2 := Aside0.mk (Kd.C_below HR2.out hb)
 clear hb
 go_upto_region 8 with (fail)
 rw [← hb3, ← hw6]
 clear hb3 hw6
 have s1 : decide ((cd.length : Int) < 2) = false := decide_eq_false (by have := HAN.out.two; omega)
 have s2 : ¬ cd.length < 2 := by have := HAN.out.two; omega
 have s3 : decide (cd.length < 2) = false := decide_eq_false s2
 obtain ⟨ad, eA, y0⟩ := Kd.at_int HV.out ((1 : Nat) : Int) (by omega) (by omega)
 subst eA
 rw [gi_rd, Int.toNat_natCast] at y0
 obtain ⟨q, hq⟩ : ∃ q, q = gi cd 1 := ⟨_, rfl⟩
 have y1 : w6.cell? ⟨ad.block, ad.off + 1, none⟩ = some (.int .i64 q) := by rw [hq]; exact y0
 have HH : Aside0 (tangramref11_Half.f k (N : Int) l2 0 q = some first) := ⟨by rw [hq]; exact HAN.out.half⟩
 clear y0 hq
 have Y1 := Aside0.mk y1
 clear y1
 go_upto_region 10 with (fail)
 clear s1 s2 s3
 have hb : Below w6.heap.size w6 w6.drew := (Below.refl _ _).drew
 replace HB := Aside0.mk (HB.out.trans (hb.mono HB.out.size))
 replace HX := Aside0.mk ((hb.block _ (lt_of HX.out)).trans HX.out)
 replace HY := Aside0.mk ((hb.block _ (lt_of HY.out)).trans HY.out)
 replace HL := Aside0.mk (Kd.C_below HL.out hb)
 replace HS := Aside0.mk (Kd.C_below HS.out hb)
 replace HV := Aside0.mk (Kd.C_below HV.out hb)
 replace HG := Aside0.mk (Kd.C_below HG.out hb)
 replace HR2 := Aside0.mk (Kd.C_below HR2.out hb)
 replace HZ := Aside0.mk ((hb.block _ (lt_of HZ.out)).trans HZ.out)
 have y1 := (hb.cell (cell_lt Y1.out)).trans Y1.out
 have x0 : w6.drew.cell? ⟨b3, 0, none⟩ = some (.int .i64 (N : Int)) := heap_cell HZ.out rfl
 have x1 : w6.drew.cell? ⟨b3, 1, none⟩ = some (.slice Al l2.length cl) := heap_cell HZ.out rfl
 clear hb Y1
 have q1 : (1 : Int) < (cd.length : Int) := by have := HAN.out.two; omega
 have q2 : 1 < cd.length := by omega
 refine start_ (n := 6) (S := fun w' => w'.cell? ⟨b3, 0, none⟩ = some (.int .i64 (N : Int)) ∧ w'.cell? ⟨b3, 1, none⟩ = some (.slice Al l2.length cl) ∧ w'.cell? ⟨ad.block, ad.off + 1, none⟩ = some (.int .i64 q)) (ds := [4]) #[false, false, false, false, false, false] (by kernel_rfl) rfl rfl ⟨x0, x1, y1⟩ (fun hHeld => ?_)
 refine pure_ (i := 1) (N := some 57) (v := ?_) (a' := ?_) #[false, true, false, false, false, false] rfl rfl (by kernel_rfl) (fun _ _ _ h => h) (Or.inl ⟨by rfl, ?_⟩) ?_ ?_
 rotate_left
 · intro w'
   go_simp
   with_reducible rfl
 rotate_left
 · simp only [Act.put, List.setIfInBounds_toArray, List.set_cons_zero, List.set_cons_succ, i64_w, i32_w]
   rfl
 refine pure_ (i := 2) (N := some 58) (v := ?_) (a' := ?_) #[false, true, true, false, false, false] rfl rfl (by kernel_rfl) (fun _ _ _ h => h) (Or.inl ⟨by rfl, ?_⟩) ?_ ?_
 rotate_left
 · intro w'
   go_simp
   with_reducible rfl
 rotate_left
 · simp only [Act.put, List.setIfInBounds_toArray, List.set_cons_zero, List.set_cons_succ, i64_w, i32_w]
   rfl
 refine take_ (i := 0) (N := some 56) (v := ?_) (a' := ?_) #[true, true, true, false, false, false] rfl rfl (by kernel_rfl) (fun _ _ _ h => h) (Or.inl ⟨by rfl, ?_⟩) hHeld ?_ ?_
 rotate_left
 · rintro w' ⟨s0, s1, s2⟩
   go_simp
   with_reducible rfl
 rotate_left
 · simp only [Act.put, List.setIfInBounds_toArray, List.set_cons_zero, List.set_cons_succ, i64_w, i32_w]
   rfl
 refine take_ (i := 3) (N := some 59) (v := ?_) (a' := ?_) #[true, true, true, true, false, false] rfl rfl (by kernel_rfl) (fun _ _ _ h => h) (Or.inl ⟨by rfl, ?_⟩) hHeld ?_ ?_
 rotate_left
 · rintro w' ⟨s0, s1, s2⟩
   go_simp
   with_reducible rfl
 rotate_left
 · simp only [Act.put, List.setIfInBounds_toArray, List.set_cons_zero, List.set_cons_succ, i64_w, i32_w]
   rfl
 refine last_ (i := 4) (N := some 60) #[true, true, true, true, true, false] rfl rfl (by kernel_rfl) (by decide) (fun K hK => ?_)
 refine goes_ Try.func24 (by kernel_rfl) rfl #[.agg #[.int .i64 (N : Int), .slice Al l2.length cl], .int .i64 0, .int .i64 q] (by rfl) rfl rfl (by simp only [List.map_toArray, List.map_cons, List.map_nil]; rfl) ?_
 with_reducible refine (tangramref11_Half.calls k (N : Int) Al cl l2 0 q first _ HG.out HCL.out HH.out).mono ?_
 rintro e' w7 ⟨rfl, hb⟩
 refine ⟨_, rfl, ?_⟩
 replace HB := Aside0.mk (HB.out.trans (hb.mono HB.out.size))
 replace HX := Aside0.mk ((hb.block _ (lt_of HX.out)).trans HX.out)
 replace HY := Aside0.mk ((hb.block _ (lt_of HY.out)).trans HY.out)
 replace HZ := Aside0.mk ((hb.block _ (lt_of HZ.out)).trans HZ.out)
 replace HL := Aside0.mk (Kd.C_below HL.out hb)
 replace HS := Aside0.mk (Kd.C_below HS.out hb)
 replace HV := Aside0.mk (Kd.C_below HV.out hb)
 replace HG := Aside0.mk (Kd.C_below HG.out hb)
 replace HR2 := Aside0.mk (Kd.C_below HR2.out hb)
 clear hb
 refine hK.out _ _ ?_
 clear hK K
 refine norm_ (a' := ?_) ?_ ?_
 rotate_left
 · show Act.put _ (some 60) _ = _
   simp only [Act.put, List.setIfInBounds_toArray, List.set_cons_zero, List.set_cons_succ, i64_w, i32_w]
   rfl
 refine pure_ (i := 5) (N := some 14) (v := ?_) (a' := ?_) #[true, true, true, true, true, true] rfl rfl (by kernel_rfl) (fun _ _ _ h => h) (Or.inl ⟨by rfl, ?_⟩) ?_ ?_
 rotate_left
 · intro w'
   go_simp
   with_reducible rfl
 rotate_left
 · simp only [Act.put, List.setIfInBounds_toArray, List.set_cons_zero, List.set_cons_succ, i64_w, i32_w]
   rfl
 refine done_ (by kernel_rfl) ?_
 clear x0 x1 y1 q1 q2
 have x0 : w7.cell? ⟨b3, 0, none⟩ = some (.int .i64 (N : Int)) := heap_cell HZ.out rfl
 have x1 : w7.cell? ⟨b3, 1, none⟩ = some (.slice Al l2.length cl) := heap_cell HZ.out rfl
 go_wp2_with fail
 clear x0 x1
 refine (canon_Rooted.calls k (N : Int) Al cl l2 Ar cr r' first cd 0 w7 HG.out HCL.out HR2.out HCR.out HAN.out.root).mono ?_
 rintro e' w8 ⟨v8, rfl, hR, hb⟩
 obtain ⟨A8, c8, rfl, hc8, hR⟩ := Kd.R_reads hR
 have HC8 := Aside0.mk hc8
 have HV8 := Aside0.mk hR
 replace HB := Aside0.mk (HB.out.trans (hb.mono HB.out.size))
 replace HX := Aside0.mk ((hb.block _ (lt_of HX.out)).trans HX.out)
 replace HY := Aside0.mk ((hb.block _ (lt_of HY.out)).trans HY.out)
 replace HL := Aside0.mk (Kd.C_below HL.out hb)
 replace HS := Aside0.mk (Kd.C_below HS.out hb)
 replace HV := Aside0.mk (Kd.C_below HV.out hb)
 replace HG := Aside0.mk (Kd.C_below HG.out hb)
 replace HR2 := Aside0.mk (Kd.C_below HR2.out hb)
 replace HZ := Aside0.mk ((hb.block _ (lt_of HZ.out)).trans HZ.out)
 clear hb hR hc8
 go_wp2_with fail
 refine (tangramref03_SameInts.calls k A8 c8 cd (some ad) c4 cd true w8 HV8.out HC8.out HV.out HC4.out HAN.out.same).mono ?_
 rintro e' w9 ⟨rfl, hd⟩
 have hb := hd.below
 replace HB := Aside0.mk (HB.out.trans (hb.mono HB.out.size))
 replace HX := Aside0.mk ((hb.block _ (lt_of HX.out)).trans HX.out)
 replace HY := Aside0.mk ((hb.block _ (lt_of HY.out)).trans HY.out)
 replace HL := Aside0.mk (Kd.C_below HL.out hb)
 replace HS := Aside0.mk (Kd.C_below HS.out hb)
 replace HV := Aside0.mk (Kd.C_below HV.out hb)
 replace HG := Aside0.mk (Kd.C_below HG.out hb)
 replace HR2 := Aside0.mk (Kd.C_below HR2.out hb)
 replace HZ := Aside0.mk ((hb.block _ (lt_of HZ.out)).trans HZ.out)
 clear hb hd HV8 HC8
 have y0 : w9.cell? ⟨b2, 0, none⟩ = some (.int .i64 (N : Int)) := heap_cell HY.out rfl
 have y1 : w9.cell? ⟨b2, 1, none⟩ = some (.slice A2 l.length c2) := heap_cell HY.out rfl
 go_wp2_with fail
 clear y0 y1
 refine (canon_Code.calls k (N : Int) A2 c2 l A3 c3 r a 0 w9 HL.out HC2.out HS.out HC3.out HAN.out.code).mono ?_
 rintro e' w10 ⟨v10, rfl, hR, hb⟩
 obtain ⟨A10, c10, rfl, hc10, hR⟩ := Kd.R_reads hR
 have HC10 := Aside0.mk hc10
 have HV10 := Aside0.mk hR
 replace HB := Aside0.mk (HB.out.trans (hb.mono HB.out.size))
 replace HX := Aside0.mk ((hb.block _ (lt_of HX.out)).trans HX.out)
 replace HY := Aside0.mk ((hb.block _ (lt_of HY.out)).trans HY.out)
 replace HL := Aside0.mk (Kd.C_below HL.out hb)
 replace HS := Aside0.mk (Kd.C_below HS.out hb)
 replace HV := Aside0.mk (Kd.C_below HV.out hb)
 replace HG := Aside0.mk (Kd.C_below HG.out hb)
 replace HR2 := Aside0.mk (Kd.C_below HR2.out hb)
 replace HZ := Aside0.mk ((hb.block _ (lt_of HZ.out)).trans HZ.out)
 clear hb hR hc10
 have x0 : w10.cell? ⟨b3, 0, none⟩ = some (.int .i64 (N : Int)) := heap_cell HZ.out rfl
 have x1 : w10.cell? ⟨b3, 1, none⟩ = some (.slice Al l2.length cl) := heap_cell HZ.out rfl
 go_wp2_with fail
 clear x0 x1
 refine (canon_Code.calls k (N : Int) Al cl l2 Ar cr r' a 0 w10 HG.out HCL.out HR2.out HCR.out HAN.out.code2).mono ?_
 rintro e' w11 ⟨v11, rfl, hR, hb⟩
 obtain ⟨A11, c11, rfl, hc11, hR⟩ := Kd.R_reads hR
 have HC11 := Aside0.mk hc11
 have HV11 := Aside0.mk hR
 replace HV10 := Aside0.mk (Kd.C_below HV10.out hb)
 replace HB := Aside0.mk (HB.out.trans (hb.mono HB.out.size))
 replace HX := Aside0.mk ((hb.block _ (lt_of HX.out)).trans HX.out)
 replace HY := Aside0.mk ((hb.block _ (lt_of HY.out)).trans HY.out)
 replace HL := Aside0.mk (Kd.C_below HL.out hb)
 replace HS := Aside0.mk (Kd.C_below HS.out hb)
 replace HV := Aside0.mk (Kd.C_below HV.out hb)
 replace HG := Aside0.mk (Kd.C_below HG.out hb)
 replace HR2 := Aside0.mk (Kd.C_below HR2.out hb)
 replace HZ := Aside0.mk ((hb.block _ (lt_of HZ.out)).trans HZ.out)
 clear hb hR hc11
 go_wp2_with fail
 refine (tangramref03_SameInts.calls k A10 c10 a A11 c11 a true w11 HV10.out HC10.out HV11.out HC11.out HAN.out.same2).mono ?_
 rintro e' w12 ⟨rfl, hd⟩
 have HB12 := Aside0.mk (HB.out.trans (hd.below.mono HB.out.size))
 clear hd
 go_wp2_with fail
 go_ret
 exact ⟨by simp, HB12.out⟩
theorem gi_one {rows : List (List Int)} (h : 0 < rows.length) (h2 : 0 < (gl rows 0).length) : gi (rows.flatMap blk) 1 = gi (gl rows 0) 0 := by
 rw [split_at h]
 show gi (gl rows 0 ++ _) 0 = _
 exact gi_pre h2
theorem anew {n : Nat} {l : List Ed} {r : List (List Int)} (hm : IsMap n l r) (hp : parts n l = 1) (h0 : 0 < l.length) {q : Nat} (hq : q < 2 * l.length) : ∃ (a : List Int) (rows r' : List (List Int)) (l2 : List Ed) (first : Int) (K : Nat), ∀ k, K ≤ k → Anew k n l r (codes n l r q) a rows r' l2 first := by
 have hw := web hm hp
 obtain ⟨F, hFe⟩ : ∃ F, F = seenOf n l r q := ⟨_, rfl⟩
 have hF : Full n (nxOf l r) (toOf l) (q : Int) F := by rw [hFe]; exact full hw (by rw [hm.len]; exact hq)
 have hR := full_ren hm hp hq hF
 have hcode := full_code hF
 obtain ⟨φ, hφ⟩ : ∃ φ, φ = fun v : Int => gi F.num v.toNat := ⟨_, rfl⟩
 obtain ⟨E, hE⟩ : ∃ E, E = fun i : Nat => gi F.ent i := ⟨_, rfl⟩
 rw [← hφ, ← hE] at hR hcode
 have hE0 : E 0 = (q : Int) := by rw [hE]; exact hF.root.2
 have hn0 := hF.root.1
 have hcd : codes n l r q = (renN n (nxOf l r) (toOf l) φ E).flatMap blk := by rw [← hcode, hFe]
 have hps := ren_prs hm hp hR
 have hgl : ∀ v, v < n → gl (renN n (nxOf l r) (toOf l) φ E) v = (List.range (per (nxOf l r) (E v))).map fun j => φ (too (toOf l) (it (nxOf l r) (E v) j)) := fun v hv => by unfold renN; rw [gl_range _ hv]
 have hlen : (renN n (nxOf l r) (toOf l) φ E).length = n := by unfold renN; simp
 have harO := ren_arO hm hp hR hps
 obtain ⟨rows, hrows⟩ : ∃ rows, rows = renN n (nxOf l r) (toOf l) φ E := ⟨_, rfl⟩
 rw [← hrows] at hps hgl hlen hcd harO
 obtain ⟨ps, hpsE⟩ : ∃ ps, ps = prsTo rows n 0 := ⟨_, rfl⟩
 rw [← hpsE] at hps harO
 have hm' := ren_rot hm hp hR hps
 have hp' := ren_parts hm hp h0 hR hps
 have hml := make_len hm hp hR hps
 have hl : (eds (makeL ps)).length = l.length := by rw [eds_length]; exact hml
 have hbest := (ren_best hm hp h0 hR hps).1
 obtain ⟨y, y1, y2, y3, y4⟩ := ren_at hm hp hR hps (x := (q : Int)) ⟨by omega, by rw [hm.len]; omega⟩
 have hcy := ren_code hm hp h0 hR hps hq y1
 obtain ⟨l2, hl2⟩ : ∃ l2, l2 = eds (makeL ps) := ⟨_, rfl⟩
 rw [← hl2] at hm' hp' hl hbest y3 y4 hcy harO
 obtain ⟨r', hr'⟩ : ∃ r', r' = renR n l2 (nxOf l r) (toOf l) φ E := ⟨_, rfl⟩
 rw [← hr'] at hm' hbest hcy harO
 have h0' : 0 < l2.length := by omega
 have hent := hR.ent 0 hn0
 rw [hE0] at hent
 have hz : φ (frm (toOf l) (q : Int)) = 0 := hent.2
 obtain ⟨jj, hjj, _⟩ := hw.arnd hent.1 hent.1 rfl
 have hg1 : gi (codes n l r q) 1 = φ (too (toOf l) (q : Int)) := by
   rw [hcd, gi_one (by omega) (by rw [hgl 0 hn0, hE0]; simp; omega), hgl 0 hn0, hE0, gi_range _ (by omega)]
   rfl
 obtain ⟨K1, k1⟩ := of_around hm'
 rw [harO] at k1
 obtain ⟨K2, k2⟩ := half_at hm'.good (h := y) (by omega)
 rw [← frm_frs hm'.good (by omega), y3, hz] at k2
 have e4 : gi (toOf l2) y = φ (too (toOf l) (q : Int)) := by rw [← y4]; unfold too; rw [Int.toNat_natCast]
 rw [e4, ← hg1] at k2
 obtain ⟨K3, k3⟩ := rooted_in hm' (one_map hm' hp' h0') (q := y) (by omega)
 rw [hcy] at k3
 obtain ⟨K4, k4⟩ := code_map hm hp h0
 obtain ⟨K5, k5⟩ := code_map hm' hp' h0'
 rw [hbest] at k5
 obtain ⟨K6, k6⟩ := ints_same (seen_cd hm q)
 obtain ⟨K7, k7⟩ := ints_same (seen_cd hm (bestOf n l r).1)
 have hcl := codes_length hm hp hq
 have hb1 := hm.good.2.1
 have hb2 := hm.good.2.2.1
 refine ⟨codes n l r (bestOf n l r).1, rows, r', l2, (y : Int), K1 + K2 + K3 + K4 + K5 + K6 + K7, fun k hk => ⟨hcd, hlen, by omega, by omega, by omega, fun v j hv hj => ?_, by rw [hl2, hpsE], by rw [← hpsE, hml]; exact hb2, k1 _ (by omega), k2 _ (by omega), k3 _ (by omega), k4 _ (by omega), k5 _ (by omega), k6 _ (by omega), k7 _ (by omega)⟩⟩
 rw [hgl v hv] at hj ⊢
 rw [List.length_map, List.length_range] at hj
 rw [gi_range _ hj]
 have b := hw.to ((hR.ent v hv).1.it hw j)
 exact hR.rng _ b.1 b.2
theorem CanonAgain (a0_0 : Int) (A0_1 : Option Addr) (c0_1 : Nat) (l0_1 : List Ed) (A1 : Option Addr) (c1 : Nat) (l1 : List (List Int)) (a2 : Int) (w : World) (hr0_1 : Kd.C k89 w A0_1 l0_1.length l0_1) (hc0_1 : l0_1.length ≤ c0_1) (hr1 : Kd.C (Kd.slice 3 (Kd.int .i64)) w A1 l1.length l1) (hc1 : l1.length ≤ c1)
   (g0 : Open.I64 a0_0 ∧ l0_1.length * 16 ≤ 140737488351232 ∧ ∀ x ∈ l0_1, Open.I64 x.f0 ∧ Open.I64 x.f1) (g1 : l1.length * 24 ≤ 140737488351232 ∧ ∀ x ∈ l1, x.length * 8 ≤ 140737488351232 ∧ ∀ y ∈ x, Open.I64 y) {P2 : Prop} (g2 : P2) :
   Calls Try.prog 7 #[.agg #[.int .i64 a0_0, .slice A0_1 l0_1.length c0_1], .slice A1 l1.length c1, .int .i64 a2] w fun e w' => e = .returned (.bool true) ∧ Below w.heap.size w w' := by
 have hs : Small l1 := ⟨g1.1, fun l hl => (g1.2 l hl).1⟩
 obtain ⟨K0, h0⟩ := copied_ev a0_0 l0_1 l1 (by omega) hs
 have no : ∀ {e : Int}, e ≠ 0 → Ev (fun k => canon_Rooted.f k a0_0 l0_1 l1 a2) ([], e) → Calls Try.prog 7 #[.agg #[.int .i64 a0_0, .slice A0_1 l0_1.length c0_1], .slice A1 l1.length c1, .int .i64 a2] w fun e w' => e = .returned (.bool true) ∧ Below w.heap.size w w' := by
   intro e he h
   obtain ⟨K1, h1⟩ := h
   exact again_walk (K0 + K1) a0_0 A0_1 c0_1 l0_1 A1 c1 l1 a2 w hr0_1 hc0_1 hr1 hc1 [] e (h0 _ (by omega)) (h1 _ (by omega)) (fun _ => rfl) (fun q => absurd q he)
 have no1 : ∀ {e : Int}, e ≠ 0 → Ev (fun k => canon_one.f k a0_0 l0_1 l1) (0, [], [], e) → Ev (fun k => canon_Rooted.f k a0_0 l0_1 l1 a2) ([], e) := by
   intro e he h
   unfold canon_Rooted.f
   exact Ev.bind h (Ev.congr (fun k => if_neg he) (Ev.now _))
 cases case a0_0 l0_1 l1 hs with
 | bad v e he _ hl _ _ =>
   have h := one_ev hl
   rw [if_neg he] at h
   exact no he (no1 he h)
 | apart _ hl _ _ =>
   have h := one_ev hl
   rw [if_pos rfl] at h
   exact no (by decide) (no1 (by decide) h)
 | fine N hN hm hp hl0 hl _ _ =>
   subst hN
   have h := one_map hm hp hl0
   by_cases hin : 0 ≤ a2 ∧ a2 < ((2 * l0_1.length : Nat) : Int)
   · obtain ⟨q, rfl⟩ := Int.eq_ofNat_of_zero_le hin.1
     obtain ⟨a, rows, r', l2, first, K, hA⟩ := anew hm hp hl0 (q := q) (by omega)
     obtain ⟨K1, h1⟩ := rooted_in hm h (q := q) (by omega)
     exact again_walk (K0 + K1 + K) (N : Int) A0_1 c0_1 l0_1 A1 c1 l1 (q : Int) w hr0_1 hc0_1 hr1 hc1 _ 0 (h0 _ (by omega)) (h1 _ (by omega)) (fun q => absurd rfl q) (fun _ => ⟨N, a, rows, r', l2, first, rfl, hA _ (by omega)⟩)
   · exact no (by decide) (rooted_out hm h (by omega))
end Go.Proofs.Yteeihjpnhjnknaa.Rot
