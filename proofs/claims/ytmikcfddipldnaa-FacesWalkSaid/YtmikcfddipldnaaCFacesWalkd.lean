/- DERIVED. Texts of this seat, one behind the other: lemmas and walks that the statement FacesWalk needs. No condition. -/
import Derived.Test.YtmikcfddipldnaaCFacesWalkb
import Derived.Test.YtmikcfddipldnaaCFacesWalkc
import Derived.StillTailTactics
namespace Go.Proofs.Ytmikcfddipldnaa.GAll
open Go.RowKit Go.Proofs.YtmikcfddipldnaaW.PrintWords Go.Proofs.YtmikcfddipldnaaW.PrintLast Go.Proofs.YtmikcfddipldnaaW.PrintMore
attribute [local go_sem] max2_int min2_int max_two min_two max_three min_three max_four min_four   -- for this text's walks alone
set_option linter.unusedVariables false
set_option linter.unusedSimpArgs false
def tangramlaw12_wakes.r : List (List Int) := [[0, 2], [1, 4], [3, 5]]
def tangramlaw12_wakes.es : List S56 := [⟨0, 1⟩, ⟨0, 2⟩, ⟨1, 2⟩]
set_option maxRecDepth 100000 in
theorem tangramlaw12_wakes.c0 : tangramlaw12_triangle.f = some (3, tangramlaw12_wakes.es, tangramlaw12_wakes.r) := by kernel_rfl
set_option maxRecDepth 100000 in
theorem tangramlaw12_wakes.c1 : faces_Of.f 40 3 tangramlaw12_wakes.es tangramlaw12_wakes.r = some ([[0, 4, 3], [1, 2, 5]], 0) := by kernel_rfl
set_option maxRecDepth 100000 in
theorem tangramlaw12_wakes.c2 : faces_Left.f 40 3 tangramlaw12_wakes.es tangramlaw12_wakes.r = some ([0, 1, 1, 0, 0, 1], 0) := by kernel_rfl
set_option maxRecDepth 100000 in
theorem tangramlaw12_wakes.c3 : faces_Genus.f 40 3 tangramlaw12_wakes.es tangramlaw12_wakes.r = some (0, 0) := by kernel_rfl
set_option maxRecDepth 100000 in
theorem tangramlaw12_wakes.c4 : faces_Of.f 40 3 tangramlaw12_wakes.es (tangramlaw12_wakes.r.take 2) = some ([], 110) := by kernel_rfl
set_option maxRecDepth 100000 in
theorem tangramlaw12_wakes.c5 : faces_Flat.f 40 3 tangramlaw12_wakes.es tangramlaw12_wakes.r = some true := by kernel_rfl
theorem tangramlaw12_wakes.s1 : tangramref03_SameLists.f 40 [[0, 4, 3], [1, 2, 5]] [[0, 4, 3], [1, 2, 5]] = some true := by kernel_rfl
theorem tangramlaw12_wakes.s2 : tangramref03_SameInts.f 40 [0, 1, 1, 0, 0, 1] [0, 1, 1, 0, 0, 1] = some true := by kernel_rfl
def tangramlaw12_wakes.f : Option Bool := some true
set_option maxHeartbeats 4000000 in
set_option maxRecDepth 100000 in
theorem tangramlaw12_wakes.calls (r : Bool) (w : World) (h : tangramlaw12_wakes.f = some r) :
   Calls Try.prog 9 #[] w fun e w' => e = .returned (.bool r) ∧ Below w.heap.size w w' := by
 obtain rfl : true = r := by simpa [tangramlaw12_wakes.f] using h
 clear h
 go_enter Try.func9, Try.ntmps9
 go_wp2_with fail
 refine (tangramlaw12_triangle.calls _ _ _ w tangramlaw12_wakes.c0).mono ?_
 rintro e w1 ⟨v1, v2, rfl, hR, hN, hb⟩
 have HB1 := Aside0.mk hb
 obtain ⟨A, c, rfl, hc, hC⟩ := Kd.R_reads hR
 obtain ⟨A1, c1, rfl, hc1, hC1⟩ := Kd.N_reads hN
 have HC1 := Aside0.mk hC
 have HL := Aside0.mk hc
 have HD1 := Aside0.mk hC1
 have HL1 := Aside0.mk hc1
 clear hb hR hN hC hC1 hc hc1
 have HX1 : Aside0 ((w1.alloc (.cells #[.int .i64 3, .slice A tangramlaw12_wakes.es.length c] 24 (0, 0))).heap[w1.heap.size]? = some (.cells #[.int .i64 3, .slice A tangramlaw12_wakes.es.length c] 24 (0, 0))) := ⟨Mem.heap_last w1 _⟩
 have hb : Below w1.heap.size w1 (w1.alloc (.cells #[.int .i64 3, .slice A tangramlaw12_wakes.es.length c] 24 (0, 0))) := (Below.refl _ _).alloc (Nat.le_refl _) _
 have HB2 := Aside0.mk (HB1.out.trans (hb.mono HB1.out.size))
 have HC2 := Aside0.mk (Kd.C_below HC1.out hb)
 have HD2 := Aside0.mk (Kd.C_below HD1.out hb)
 have x0 : (w1.alloc (.cells #[.int .i64 3, .slice A tangramlaw12_wakes.es.length c] 24 (0, 0))).cell? ⟨w1.heap.size, 0, none⟩ = some (.int .i64 3) := Mem.heap_cell HX1.out rfl
 have x1 : (w1.alloc (.cells #[.int .i64 3, .slice A tangramlaw12_wakes.es.length c] 24 (0, 0))).cell? ⟨w1.heap.size, 1, none⟩ = some (.slice A tangramlaw12_wakes.es.length c) := Mem.heap_cell HX1.out rfl
 clear hb HB1 HC1 HD1
 go_wp2_with fail
 generalize w1.alloc (.cells #[.int .i64 3, .slice A tangramlaw12_wakes.es.length c] 24 (0, 0)) = w2 at HX1 HB2 HC2 HD2 x0 x1 ⊢
 obtain ⟨b, hbb⟩ : ∃ b, b = w1.heap.size := ⟨_, rfl⟩
 rw [← hbb] at HX1 x0 x1 ⊢
 clear hbb
 refine (faces_Of.calls 40 3 A c tangramlaw12_wakes.es A1 c1 tangramlaw12_wakes.r _ _ w2 HC2.out HL.out HD2.out HL1.out tangramlaw12_wakes.c1).mono ?_
 rintro e w3 ⟨v, rfl, hR, hb⟩
 have HB3 := Aside0.mk (HB2.out.trans (hb.mono HB2.out.size))
 have HX3 := Aside0.mk ((hb.block _ (Mem.lt_of HX1.out)).trans HX1.out)
 have HC3 := Aside0.mk (Kd.C_below HC2.out hb)
 have HD3 := Aside0.mk (Kd.C_below HD2.out hb)
 clear HB2 HX1 HC2 HD2
 first | clear x0 x1 | skip
 have x0 : w3.cell? ⟨b, 0, none⟩ = some (.int .i64 3) := Mem.heap_cell HX3.out rfl
 have x1 : w3.cell? ⟨b, 1, none⟩ = some (.slice A tangramlaw12_wakes.es.length c) := Mem.heap_cell HX3.out rfl
 clear hb
 obtain ⟨A3, c3, e3, hc, hC⟩ := Kd.S_reads hR
 have HR3 := Aside0.mk hC
 have HL3 := Aside0.mk hc
 clear hR hC hc
 subst e3
 go_wp2_with fail
 refine (faces_Left.calls 40 3 A c tangramlaw12_wakes.es A1 c1 tangramlaw12_wakes.r _ _ w3 HC3.out HL.out HD3.out HL1.out tangramlaw12_wakes.c2).mono ?_
 rintro e w4 ⟨v, rfl, hR, hb⟩
 have HB4 := Aside0.mk (HB3.out.trans (hb.mono HB3.out.size))
 have HX4 := Aside0.mk ((hb.block _ (Mem.lt_of HX3.out)).trans HX3.out)
 have HC4 := Aside0.mk (Kd.C_below HC3.out hb)
 have HD4 := Aside0.mk (Kd.C_below HD3.out hb)
 clear HB3 HX3 HC3 HD3
 first | clear x0 x1 | skip
 have x0 : w4.cell? ⟨b, 0, none⟩ = some (.int .i64 3) := Mem.heap_cell HX4.out rfl
 have x1 : w4.cell? ⟨b, 1, none⟩ = some (.slice A tangramlaw12_wakes.es.length c) := Mem.heap_cell HX4.out rfl
 have HR3a := Aside0.mk (Kd.C_below HR3.out hb)
 clear HR3
 clear hb
 obtain ⟨A4, c4, e4, hc, hC⟩ := Kd.R_reads hR
 have HR4 := Aside0.mk hC
 have HL4 := Aside0.mk hc
 clear hR hC hc
 subst e4
 go_wp2_with fail
 refine (faces_Genus.calls 40 3 A c tangramlaw12_wakes.es A1 c1 tangramlaw12_wakes.r _ _ w4 HC4.out HL.out HD4.out HL1.out tangramlaw12_wakes.c3).mono ?_
 rintro e w5 ⟨rfl, hb⟩
 have HB5 := Aside0.mk (HB4.out.trans (hb.mono HB4.out.size))
 have HX5 := Aside0.mk ((hb.block _ (Mem.lt_of HX4.out)).trans HX4.out)
 have HC5 := Aside0.mk (Kd.C_below HC4.out hb)
 have HD5 := Aside0.mk (Kd.C_below HD4.out hb)
 clear HB4 HX4 HC4 HD4
 first | clear x0 x1 | skip
 have x0 : w5.cell? ⟨b, 0, none⟩ = some (.int .i64 3) := Mem.heap_cell HX5.out rfl
 have x1 : w5.cell? ⟨b, 1, none⟩ = some (.slice A tangramlaw12_wakes.es.length c) := Mem.heap_cell HX5.out rfl
 have HR3b := Aside0.mk (Kd.C_below HR3a.out hb)
 clear HR3a
 have HR4a := Aside0.mk (Kd.C_below HR4.out hb)
 clear HR4
 clear hb x0 x1
 have hX := Mem.C_take (a := 2) HD5.out HL1.out (by decide)
 have hXe : (if c1 = 0 then A1 else A1.map (·.add (0 * Mem.KR.sz))) = A1 := by
   rw [Nat.zero_mul]
   cases A1 <;> simp [Addr.add_zero']
 rw [hXe] at hX
 have HXC : Aside0 (Kd.C Mem.KR w5 A1 (tangramlaw12_wakes.r.take 2).length (tangramlaw12_wakes.r.take 2)) := ⟨hX⟩
 have hle : (2 : Int) ≤ (c1 : Int) := by
   have : 3 ≤ c1 := HL1.out
   omega
 clear hX hXe
 go_upto_region 5 with (fail)
 have hb : Below w5.heap.size w5 w5.drew := (Below.refl _ _).drew
 have HD5 := HD5
 have E0 : Aside0 (w5.drew.cell? ⟨b, 0, none⟩ = some (.int .i64 3)) := ⟨Mem.heap_cell (w := w5) HX5.out rfl⟩
 have E1 : Aside0 (w5.drew.cell? ⟨b, 1, none⟩ = some (.slice A tangramlaw12_wakes.es.length c)) := ⟨Mem.heap_cell (w := w5) HX5.out rfl⟩
 have HC5d := Aside0.mk (Kd.C_below HC5.out hb)
 have HXd := Aside0.mk (Kd.C_below HXC.out hb)
 clear hb HXC
 refine start_ (n := 9) (S := fun w' => w'.cell? ⟨b, 0, none⟩ = some (.int .i64 3) ∧ w'.cell? ⟨b, 1, none⟩ = some (.slice A tangramlaw12_wakes.es.length c)) (ds := [3]) #[false, false, false, false, false, false, false, false, false] (by kernel_rfl) rfl rfl ⟨E0.out, E1.out⟩ (fun hHeld => ?_)
 refine pure_ (i := 1) (N := some 35) (v := ?_) (a' := ?_) #[false, true, false, false, false, false, false, false, false] rfl rfl (by kernel_rfl) (fun _ _ _ h => h) (Or.inl ⟨by rfl, ?_⟩) ?_ ?_
 rotate_left
 · intro w'
   go_simp
   with_reducible rfl
 rotate_left
 · simp only [Act.put, List.setIfInBounds_toArray, List.set_cons_zero, List.set_cons_succ, i64_w, i32_w]
   rfl
 refine pure_ (i := 2) (N := some 36) (v := ?_) (a' := ?_) #[false, true, true, false, false, false, false, false, false] rfl rfl (by kernel_rfl) (fun _ _ _ h => h) (Or.inl ⟨by rfl, ?_⟩) ?_ ?_
 rotate_left
 · intro w'
   go_simp
   with_reducible rfl
 rotate_left
 · simp only [Act.put, List.setIfInBounds_toArray, List.set_cons_zero, List.set_cons_succ, i64_w, i32_w]
   rfl
 refine take_ (i := 0) (N := some 34) (v := ?_) (a' := ?_) #[true, true, true, false, false, false, false, false, false] rfl rfl (by kernel_rfl) (fun _ _ _ h => h) (Or.inl ⟨by rfl, ?_⟩) hHeld ?_ ?_
 rotate_left
 · rintro w' ⟨s0, s1⟩
   go_simp
   with_reducible rfl
 rotate_left
 · simp only [Act.put, List.setIfInBounds_toArray, List.set_cons_zero, List.set_cons_succ, i64_w, i32_w]
   rfl
 refine last_ (i := 3) (N := some 37) #[true, true, true, true, false, false, false, false, false] rfl rfl (by kernel_rfl) (by decide) (fun K hK => ?_)
 refine goes_ Try.func10 (by kernel_rfl) rfl #[.agg #[.int .i64 3, .slice A tangramlaw12_wakes.es.length c], .slice A1 (tangramlaw12_wakes.r.take 2).length c1] (by rfl) rfl rfl (by simp only [List.map_toArray, List.map_cons, List.map_nil]; rfl) ?_
 with_reducible refine (faces_Of.calls 40 3 A c tangramlaw12_wakes.es A1 c1 (tangramlaw12_wakes.r.take 2) _ _ w5.drew HC5d.out HL.out HXd.out (Nat.le_trans (by decide) HL1.out) tangramlaw12_wakes.c4).mono ?_
 rintro e w6 ⟨v6, rfl, hR6, hb6⟩
 refine ⟨_, rfl, ?_⟩
 have HBq := Aside0.mk hb6
 clear hR6 hb6
 refine hK.out _ _ ?_
 clear hK K
 refine norm_ (a' := ?_) ?_ ?_
 rotate_left
 · show Act.put _ (some 37) _ = _
   simp only [Act.put, List.setIfInBounds_toArray, List.set_cons_zero, List.set_cons_succ, i64_w, i32_w]
   rfl
 refine pure_ (i := 4) (N := some 33) (v := ?_) (a' := ?_) #[true, true, true, true, true, false, false, false, false] rfl rfl (by kernel_rfl) (fun _ _ _ h => h) (Or.inl ⟨by rfl, ?_⟩) ?_ ?_
 rotate_left
 · intro w'
   go_simp
   with_reducible rfl
 rotate_left
 · simp only [Act.put, List.setIfInBounds_toArray, List.set_cons_zero, List.set_cons_succ, i64_w, i32_w]
   rfl
 refine pure_ (i := 5) (N := some 38) (v := ?_) (a' := ?_) #[true, true, true, true, true, true, false, false, false] rfl rfl (by kernel_rfl) (fun _ _ _ h => h) (Or.inl ⟨by rfl, ?_⟩) ?_ ?_
 rotate_left
 · intro w'
   go_simp
   with_reducible rfl
 rotate_left
 · simp only [Act.put, List.setIfInBounds_toArray, List.set_cons_zero, List.set_cons_succ, i64_w, i32_w]
   rfl
 refine pure_ (i := 6) (N := some 39) (v := ?_) (a' := ?_) #[true, true, true, true, true, true, true, false, false] rfl rfl (by kernel_rfl) (fun _ _ _ h => h) (Or.inl ⟨by rfl, ?_⟩) ?_ ?_
 rotate_left
 · intro w'
   go_simp
   with_reducible rfl
 rotate_left
 · simp only [Act.put, List.setIfInBounds_toArray, List.set_cons_zero, List.set_cons_succ, i64_w, i32_w]
   rfl
 refine pure_ (i := 7) (N := some 9) (v := ?_) (a' := ?_) #[true, true, true, true, true, true, true, true, false] rfl rfl (by kernel_rfl) (fun _ _ _ h => h) (Or.inl ⟨by rfl, ?_⟩) ?_ ?_
 rotate_left
 · intro w'
   go_simp
   with_reducible rfl
 rotate_left
 · simp only [Act.put, List.setIfInBounds_toArray, List.set_cons_zero, List.set_cons_succ, i64_w, i32_w]
   rfl
 refine pure_ (i := 8) (N := some 10) (v := ?_) (a' := ?_) #[true, true, true, true, true, true, true, true, true] rfl rfl (by kernel_rfl) (fun _ _ _ h => h) (Or.inl ⟨by rfl, ?_⟩) ?_ ?_
 rotate_left
 · intro w'
   go_simp
   with_reducible rfl
 rotate_left
 · simp only [Act.put, List.setIfInBounds_toArray, List.set_cons_zero, List.set_cons_succ, i64_w, i32_w]
   rfl
 refine done_ (by kernel_rfl) ?_
 have hb : Below w5.heap.size w5 w6 := (((Below.refl w5.heap.size w5).drew).trans HBq.out)
 have HB6 := Aside0.mk (HB5.out.trans (hb.mono HB5.out.size))
 have HX6 := Aside0.mk ((hb.block _ (Mem.lt_of HX5.out)).trans HX5.out)
 have HC6 := Aside0.mk (Kd.C_below HC5.out hb)
 have HD6 := Aside0.mk (Kd.C_below HD5.out hb)
 clear HB5 HX5 HC5 HD5
 first | clear x0 x1 | skip
 have x0 : w6.cell? ⟨b, 0, none⟩ = some (.int .i64 3) := Mem.heap_cell HX6.out rfl
 have x1 : w6.cell? ⟨b, 1, none⟩ = some (.slice A tangramlaw12_wakes.es.length c) := Mem.heap_cell HX6.out rfl
 have HR3c := Aside0.mk (Kd.C_below HR3b.out hb)
 clear HR3b
 have HR4b := Aside0.mk (Kd.C_below HR4a.out hb)
 clear HR4a
 clear hb HBq hle HXd HC5d E0 E1
 go_wp2_with fail
 refine (faces_Flat.calls 40 3 A c tangramlaw12_wakes.es A1 c1 tangramlaw12_wakes.r _ w6 HC6.out HL.out HD6.out HL1.out tangramlaw12_wakes.c5).mono ?_
 rintro e w7 ⟨rfl, hb⟩
 have HB7 := Aside0.mk (HB6.out.trans (hb.mono HB6.out.size))
 have HR3d := Aside0.mk (Kd.C_below HR3c.out hb)
 clear HR3c
 have HR4c := Aside0.mk (Kd.C_below HR4b.out hb)
 clear HR4b
 clear hb x0 x1 HB6 HX6 HC6 HD6
 have HQ8 : Aside0 (Kd.C Mem.KR ((Mem.lits w7 [[0, 4, 3], [1, 2, 5]]).alloc (.cells (Mem.outer w7.heap.size [[0, 4, 3], [1, 2, 5]]).toArray 36 (0, 0))) (some ⟨w7.heap.size + 1 + 1, 0, none⟩) 2 [[0, 4, 3], [1, 2, 5]]) := ⟨Mem.lits_reads w7 [[0, 4, 3], [1, 2, 5]] (by decide) (by decide)⟩
 have hb := Mem.lits_all w7 [[0, 4, 3], [1, 2, 5]]
 have HB8 := Aside0.mk (HB7.out.trans (hb.mono HB7.out.size))
 have HR3e := Aside0.mk (Kd.C_below HR3d.out hb)
 clear HR3d
 have HR4d := Aside0.mk (Kd.C_below HR4c.out hb)
 clear HR4c
 clear hb HB7
 go_wp2_with fail
 show Calls _ _ _ ((Mem.lits w7 [[0, 4, 3], [1, 2, 5]]).alloc (.cells (Mem.outer w7.heap.size [[0, 4, 3], [1, 2, 5]]).toArray 36 (0, 0))) _
 generalize (Mem.lits w7 [[0, 4, 3], [1, 2, 5]]).alloc (.cells (Mem.outer w7.heap.size [[0, 4, 3], [1, 2, 5]]).toArray 36 (0, 0)) = w8 at HQ8 HB8 HR3e HR4d ⊢
 refine (tangramref03_SameLists.calls 40 A3 c3 [[0, 4, 3], [1, 2, 5]] (some ⟨w7.heap.size + 1 + 1, 0, none⟩) 2 [[0, 4, 3], [1, 2, 5]] true w8 HR3e.out HL3.out HQ8.out (by decide) tangramlaw12_wakes.s1).mono ?_
 rintro e w9 ⟨rfl, hd⟩
 have hb := hd.below
 have HB9 := Aside0.mk (HB8.out.trans (hb.mono HB8.out.size))
 have HR4e := Aside0.mk (Kd.C_below HR4d.out hb)
 clear HR4d
 clear hb hd HQ8 HB8 HR3e
 have HIX : Aside0 (Mem.IRow (w9.alloc (.cells #[.int .i64 0, .int .i64 1, .int .i64 1, .int .i64 0, .int .i64 0, .int .i64 1] 3 (0, 0))) w9.heap.size [0, 1, 1, 0, 0, 1]) := ⟨Mem.heap_last w9 _⟩
 have hb := (Below.refl w9.heap.size w9).alloc (Nat.le_refl _) (.cells #[.int .i64 0, .int .i64 1, .int .i64 1, .int .i64 0, .int .i64 0, .int .i64 1] 3 (0, 0))
 have HBx := Aside0.mk (HB9.out.trans (hb.mono HB9.out.size))
 have HR4f := Aside0.mk (Kd.C_below HR4e.out hb)
 clear HR4e
 clear hb HB9
 go_wp2_with fail
 generalize w9.alloc (.cells #[.int .i64 0, .int .i64 1, .int .i64 1, .int .i64 0, .int .i64 0, .int .i64 1] 3 (0, 0)) = wx at HIX HBx HR4f ⊢
 refine (tangramref03_SameInts.calls 40 A4 c4 [0, 1, 1, 0, 0, 1] (some ⟨w9.heap.size, 0, none⟩) 6 [0, 1, 1, 0, 0, 1] true wx HR4f.out HL4.out (Mem.row_reads HIX.out (by decide)) (by decide) tangramlaw12_wakes.s2).mono ?_
 rintro e w10 ⟨rfl, hd⟩
 have hb := hd.below
 have HB10 := Aside0.mk (HBx.out.trans (hb.mono HBx.out.size))
 clear hb hd HIX HBx HR4f
 go_wp2_with fail
 go_ret
 exact ⟨rfl, HB10.out⟩
end Go.Proofs.Ytmikcfddipldnaa.GAll
namespace Go.Proofs.Ytmikcfddipldnaa.Rot
open Go.RowKit Go.Proofs.YtmikcfddipldnaaW.PrintWords Go.Proofs.YtmikcfddipldnaaW.PrintLast Go.Proofs.YtmikcfddipldnaaW.PrintMore Go.Proofs.Ytmikcfddipldnaa.GAll Go.Proofs.Ytmikcfddipldnaa.Mem Go.Proofs.Ytmikcfddipldnaa.Ring Go.Proofs.Ytmikcfddipldnaa.Face
set_option linter.unusedVariables false
set_option linter.unusedSimpArgs false
def walkTo (fs : List (List Int)) : Nat → Nat
 | 0 => 0
 | q + 1 => walkTo fs q + (gl fs q).length
structure WalkOk (fs : List (List Int)) (lf nx : List Int) : Prop where
 pos : ∀ q, q < fs.length → 0 < (gl fs q).length
 rise : ∀ q, q + 1 < fs.length → gi (gl fs q) 0 < gi (gl fs (q + 1)) 0
 elem : ∀ q i, q < fs.length → i < (gl fs q).length → ∃ h t : Nat, gi (gl fs q) i = (h : Int) ∧ gi (gl fs q) 0 ≤ (h : Int) ∧ h < nx.length ∧ gi lf h = (q : Int) ∧ Go.bits .xor .i64 (h : Int) 1 = (t : Int) ∧ t < nx.length ∧ gi nx t = gi (gl fs q) ((i + 1) % (gl fs q).length) ∧ (0 < i → (h : Int) ≠ gi (gl fs q) 0)
 count : walkTo fs fs.length = nx.length
 len : lf.length = nx.length
 nb : nx.length ≤ 8388608
 fb : fs.length ≤ 8388608
 rb : ∀ q, q < fs.length → (gl fs q).length ≤ 8388608
 sb : ∀ q, q ≤ fs.length → walkTo fs q ≤ 8388608
theorem markRow_out {row : List Int} {q : Int} {o : List Int} {x : Nat} : ∀ i, (∀ j, j < i → (gi row j).toNat ≠ x) → gi (markRow row q o i) x = gi o x
 | 0, _ => rfl
 | i + 1, h => by
   unfold markRow
   rw [gi_set, if_neg (fun e => h i (by omega) e.1)]
   exact markRow_out i (fun j hj => h j (by omega))
theorem markRow_in {row : List Int} {q : Int} {o : List Int} {x j : Nat} (hx : x < o.length) (hj : (gi row j).toNat = x) : ∀ i, j < i → gi (markRow row q o i) x = q
 | 0, h => absurd h (by omega)
 | i + 1, h => by
   unfold markRow
   rw [gi_set, markRow_length]
   by_cases e : (gi row i).toNat = x
   · rw [if_pos ⟨e, hx⟩]
   · rw [if_neg (fun e2 => e e2.1)]
     rcases Nat.lt_succ_iff_lt_or_eq.1 h with g | rfl
     · exact markRow_in hx hj i g
     · exact absurd hj e
theorem gl_zN {F : List (List Nat)} {q : Nat} (hq : q < F.length) : gl (F.map zN) q = zN F[q] := by
 unfold gl
 rw [List.getD_eq_getElem?_getD, List.getElem?_map, List.getElem?_eq_getElem hq]
 rfl
theorem gi_zN (L : List Nat) (i : Nat) : gi (zN L) i = (L.getD i 0 : Int) := by
 unfold gi zN
 rw [List.getD_eq_getElem?_getD, List.getD_eq_getElem?_getD, List.getElem?_map]
 cases L[i]? <;> rfl
theorem zN_length (L : List Nat) : (zN L).length = L.length := by unfold zN; simp
theorem markRows_at {F : List (List Nat)} {M : Nat} (hn : F.flatten.Nodup) (hM : ∀ L ∈ F, ∀ x ∈ L, x < M) : ∀ Q, Q ≤ F.length → ∀ q, q < Q → ∀ (hq : q < F.length) (i : Nat), i < (F[q]).length → gi (markRows (F.map zN) M Q) ((F[q]).getD i 0) = (q : Int)
 | 0, _, q, h, _, _, _ => absurd h (by omega)
 | Q + 1, hQ, q, h, hq, i, hi => by
   have hQl : Q < F.length := by omega
   have hmem : ∀ (p : Nat) (hp : p < F.length) (j : Nat), j < (F[p]).length → (F[p]).getD j 0 ∈ F[p] := fun p hp j hj => by
     rw [List.getD_eq_getElem?_getD, List.getElem?_eq_getElem hj]
     exact List.getElem_mem hj
   unfold markRows
   rw [gl_zN hQl, zN_length]
   by_cases e : q = Q
   · subst e
     exact markRow_in (by rw [markRows_length]; exact hM _ (List.getElem_mem hq) _ (hmem q hq i hi)) (by rw [gi_zN]; exact Int.toNat_natCast _) _ hi
   · rw [markRow_out _ (fun j hj => by
       rw [gi_zN, Int.toNat_natCast]
       intro e2
       rw [List.Nodup, List.pairwise_flatten] at hn
       have := (List.pairwise_iff_getElem.1 hn.2) q Q hq hQl (by omega) _ (hmem q hq i hi) _ (hmem Q hQl j hj)
       exact this e2.symm)]
     exact markRows_at hn hM Q (by omega) q (by omega) hq i hi
theorem walkTo_flat {F : List (List Nat)} : ∀ q, q ≤ F.length → walkTo (F.map zN) q = (F.take q).flatten.length
 | 0, _ => by simp [walkTo]
 | q + 1, h => by
   have e : F.take (q + 1) = F.take q ++ [F[q]] := List.take_succ_eq_append_getElem (by omega)
   unfold walkTo
   rw [walkTo_flat q (by omega), gl_zN (by omega), zN_length, e, List.flatten_append, List.length_append]
   simp only [List.flatten_cons, List.flatten_nil, List.append_nil]
theorem ring_mod {f : Nat → Nat} {L : List Nat} (h : Ring f L) {i : Nat} (hi : i < L.length) : f (L.getD i 0) = L.getD ((i + 1) % L.length) 0 := by
 cases L with
 | nil => exact absurd rfl h.1
 | cons a t =>
   have h2 := ring_cons.1 h
   unfold Lead at h2
   have e1 : ((a :: t).map f)[i]? = some (f ((a :: t).getD i 0)) := by
     rw [List.getElem?_map, List.getD_eq_getElem?_getD, List.getElem?_eq_getElem hi]; rfl
   rw [h2, List.tail_cons] at e1
   by_cases c : i + 1 < (a :: t).length
   · rw [Nat.mod_eq_of_lt c]
     rw [List.getElem?_append_left (by simp at c; omega)] at e1
     have e2 : (a :: t).getD (i + 1) 0 = t[i]?.getD 0 := by rw [List.getD_eq_getElem?_getD, List.getElem?_cons_succ]
     rw [e2, e1]; rfl
   · have e : i + 1 = (a :: t).length := by omega
     rw [e, Nat.mod_self]
     rw [List.getElem?_append_right (by simp at e; omega)] at e1
     have : i - t.length = 0 := by simp at e; omega
     rw [this] at e1
     simpa using e1.symm
theorem IsMap.walkOk {n : Nat} {l : List Ed} {r : List (List Int)} (hm : IsMap n l r) : WalkOk (facesL (stOf l r)) (leftL (facesL (stOf l r)) (2 * l.length)) (nxOf l r) := by
 obtain ⟨F, e, hF⟩ := hm.faces
 obtain ⟨s1, s2⟩ := hm.small hF
 have hlen := hm.len
 have hll := hm.good.2.2.1
 have hM : ∀ L ∈ F, ∀ x ∈ L, x < 2 * l.length := fun L hL => faces_mem hm hF hL
 have hsum : ∀ q, q ≤ F.length → walkTo (F.map zN) q ≤ 2 * l.length := fun q hq => by
   rw [walkTo_flat q hq]
   have h1 := hF.perm.length_eq
   rw [List.length_range] at h1
   have h2 : F.flatten.length = (F.take q).flatten.length + (F.drop q).flatten.length := by rw [← List.length_append, ← List.flatten_append, List.take_append_drop]
   omega
 rw [e]
 refine ⟨fun q hq => ?_, fun q hq => ?_, fun q i hq hi => ?_, ?_, ?_, by omega, by rw [List.length_map]; omega, fun q hq => ?_, fun q hq => ?_⟩
 · rw [List.length_map] at hq
   rw [gl_zN hq, zN_length]
   exact List.length_pos_iff.2 (hF.dec.ring _ (List.getElem_mem hq)).1
 · rw [List.length_map] at hq
   rw [gl_zN (by omega), gl_zN (by omega), gi_zN, gi_zN]
   have := (List.pairwise_iff_getElem.1 hF.rise) q (q + 1) (by omega) hq (by omega)
   have key : ∀ L : List Nat, L.getD 0 0 = L.headD 0 := fun L => by cases L <;> rfl
   rw [key, key]
   omega
 · rw [List.length_map] at hq
   rw [gl_zN hq] at hi ⊢
   rw [zN_length] at hi ⊢
   have hL : F[q] ∈ F := List.getElem_mem hq
   have hr := hF.dec.ring _ hL
   have hx : (F[q]).getD i 0 ∈ F[q] := by
     rw [List.getD_eq_getElem?_getD, List.getElem?_eq_getElem hi]
     exact List.getElem_mem hi
   have hx2 := hM _ hL _ hx
   have htl := twn_lt hx2
   have key : ∀ L : List Nat, L.getD 0 0 = L.headD 0 := fun L => by cases L <;> rfl
   refine ⟨(F[q]).getD i 0, twn ((F[q]).getD i 0), gi_zN _ _, ?_, by omega, ?_, tw_twn (by omega), by omega, ?_, fun h0 e2 => ?_⟩
   · rw [gi_zN, key]
     have := hF.head _ hL _ hx
     omega
   · unfold leftL
     rw [List.length_map]
     exact markRows_at hF.dec.nodup hM F.length (Nat.le_refl _) q hq hq i hi
   · rw [gi_zN, ← ring_mod hr hi, stf_eq hx2, hm.nxf_eq htl]
   · rw [gi_zN] at e2
     have hn : (F[q]).Nodup := by
       have := hF.dec.nodup
       rw [List.Nodup, List.pairwise_flatten] at this
       exact this.1 _ hL
     have hp := List.length_pos_iff.2 hr.1
     have e3 : (F[q])[0] = (F[q])[i] := by
       rw [List.getD_eq_getElem?_getD, List.getD_eq_getElem?_getD, List.getElem?_eq_getElem hi, List.getElem?_eq_getElem hp] at e2
       simp only [Option.getD_some] at e2
       omega
     exact (List.pairwise_iff_getElem.1 hn) 0 i hp hi h0 e3
 · rw [List.length_map, walkTo_flat _ (Nat.le_refl _), List.take_length, hF.perm.length_eq, List.length_range, hlen]
 · unfold leftL
   rw [markRows_length, hlen]
 · rw [List.length_map] at hq
   rw [gl_zN hq, zN_length]
   have := s2 _ (List.getElem_mem hq)
   omega
 · rw [List.length_map] at hq
   have := hsum q hq
   omega
set_option maxHeartbeats 4000000 in
set_option maxRecDepth 100000 in
theorem walk_bad (k : Nat) (n : Int) (A : Option Addr) (c : Nat) (l : List Ed) (A1 : Option Addr) (c1 : Nat) (r : List (List Int)) (w : World) (hr : Kd.C k56 w A l.length l) (hc : l.length ≤ c) (hr1 : Kd.C (Kd.slice 3 (Kd.int .i64)) w A1 r.length r) (hc1 : r.length ≤ c1)
   {e : Int} {fs : List (List Int)} {lf nx : List Int} (cg : tangramref03_Copy.f k n l = some (n, l)) (cr : tangramref11_Copy.f k r = some r) (h1 : faces_Of.f k n l r = some (fs, e)) (h2 : faces_Left.f k n l r = some (lf, e)) (h3 : rot_Next.f k n l r = some (nx, e))
   (he : e ≠ 0) (hfs : fs = []) (hlf : lf = []) :
   Calls Try.prog 4 #[.agg #[.int .i64 n, .slice A l.length c], .slice A1 r.length c1] w fun e w' => e = .returned (.bool true) ∧ Below w.heap.size w w' := by
 have t1 : (e != 0) = true := bne_iff_ne.2 he
 have t2 : ((fs.length : Int) == 0) = true := by rw [hfs]; rfl
 have t3 : ((lf.length : Int) == 0) = true := by rw [hlf]; rfl
 clear he hfs hlf
 have HCG := Aside0.mk cg
 have HCQ := Aside0.mk cr
 have H1 := Aside0.mk h1
 have H2 := Aside0.mk h2
 have H3 := Aside0.mk h3
 have t0 : (e != e) = false := bne_eq_false_iff_eq.2 rfl
 clear cg cr h1 h2 h3
 have HX := Aside0.mk (heap_last w (.cells #[.int .i64 n, .slice A l.length c] 24 (0, 0)))
 have HB : Aside0 (Below w.heap.size w (w.alloc (.cells #[.int .i64 n, .slice A l.length c] 24 (0, 0)))) := ⟨(Below.refl _ _).alloc (Nat.le_refl _) _⟩
 have HG := Aside0.mk (Kd.C_below hr HB.out)
 have HR := Aside0.mk (Kd.C_below hr1 HB.out)
 have HCC := Aside0.mk hc
 have HCR := Aside0.mk hc1
 clear hr hr1 hc hc1
 go_enter Try.func4, Try.ntmps4
 go_wp2_with fail
 generalize w.alloc (.cells #[.int .i64 n, .slice A l.length c] 24 (0, 0)) = w0 at HX HB HG HR ⊢
 obtain ⟨b, hbb⟩ : ∃ b, b = w.heap.size := ⟨_, rfl⟩
 rw [← hbb] at HX ⊢
 clear hbb
 refine (tangramlaw12_wakes.calls true w0 rfl).mono ?_
 rintro e' w1 ⟨rfl, hb⟩
 replace HB := Aside0.mk (HB.out.trans (hb.mono HB.out.size))
 replace HX := Aside0.mk ((hb.block _ (lt_of HX.out)).trans HX.out)
 replace HG := Aside0.mk (Kd.C_below HG.out hb)
 replace HR := Aside0.mk (Kd.C_below HR.out hb)
 (try replace HGC := Aside0.mk (Kd.C_below HGC.out hb))
 (try replace HRC := Aside0.mk (Kd.C_below HRC.out hb))
 (try replace HV1 := Aside0.mk (Kd.C_below HV1.out hb))
 (try replace HV2 := Aside0.mk (Kd.C_below HV2.out hb))
 (try replace HV3 := Aside0.mk (Kd.C_below HV3.out hb))
 clear hb
 have x0 : w1.cell? ⟨b, 0, none⟩ = some (.int .i64 n) := heap_cell HX.out rfl
 have x1 : w1.cell? ⟨b, 1, none⟩ = some (.slice A l.length c) := heap_cell HX.out rfl
 go_wp2_with fail
 clear x0 x1
 refine (tangramref03_Copy.calls k n A c l n l w1 HG.out HCC.out HCG.out).mono ?_
 rintro e' w2 ⟨vg, rfl, hR, hb⟩
 replace HB := Aside0.mk (HB.out.trans (hb.mono HB.out.size))
 replace HX := Aside0.mk ((hb.block _ (lt_of HX.out)).trans HX.out)
 replace HG := Aside0.mk (Kd.C_below HG.out hb)
 replace HR := Aside0.mk (Kd.C_below HR.out hb)
 (try replace HGC := Aside0.mk (Kd.C_below HGC.out hb))
 (try replace HRC := Aside0.mk (Kd.C_below HRC.out hb))
 (try replace HV1 := Aside0.mk (Kd.C_below HV1.out hb))
 (try replace HV2 := Aside0.mk (Kd.C_below HV2.out hb))
 (try replace HV3 := Aside0.mk (Kd.C_below HV3.out hb))
 obtain ⟨Ag, cg, rfl, hcg, hR⟩ := Kd.R_reads hR
 have HGC := Aside0.mk hR
 have HGL := Aside0.mk hcg
 clear hb hR hcg
 go_wp2_with fail
 refine (tangramref11_Copy.calls k A1 c1 r r w2 HR.out HCR.out HCQ.out).mono ?_
 rintro e' w3 ⟨vr, rfl, hS, hb⟩
 replace HB := Aside0.mk (HB.out.trans (hb.mono HB.out.size))
 replace HX := Aside0.mk ((hb.block _ (lt_of HX.out)).trans HX.out)
 replace HG := Aside0.mk (Kd.C_below HG.out hb)
 replace HR := Aside0.mk (Kd.C_below HR.out hb)
 (try replace HGC := Aside0.mk (Kd.C_below HGC.out hb))
 (try replace HRC := Aside0.mk (Kd.C_below HRC.out hb))
 (try replace HV1 := Aside0.mk (Kd.C_below HV1.out hb))
 (try replace HV2 := Aside0.mk (Kd.C_below HV2.out hb))
 (try replace HV3 := Aside0.mk (Kd.C_below HV3.out hb))
 obtain ⟨Ar, cr, rfl, hcr, hS⟩ := Kd.S_reads hS
 have HRC := Aside0.mk hS
 have HRL := Aside0.mk hcr
 clear hb hS hcr
 go_wp2_with fail
 refine (faces_Of.calls k n Ag cg l Ar cr r fs e w3 HGC.out HGL.out HRC.out HRL.out H1.out).mono ?_
 rintro e' w4 ⟨vv, rfl, hS, hb⟩
 replace HB := Aside0.mk (HB.out.trans (hb.mono HB.out.size))
 replace HX := Aside0.mk ((hb.block _ (lt_of HX.out)).trans HX.out)
 replace HG := Aside0.mk (Kd.C_below HG.out hb)
 replace HR := Aside0.mk (Kd.C_below HR.out hb)
 (try replace HGC := Aside0.mk (Kd.C_below HGC.out hb))
 (try replace HRC := Aside0.mk (Kd.C_below HRC.out hb))
 (try replace HV1 := Aside0.mk (Kd.C_below HV1.out hb))
 (try replace HV2 := Aside0.mk (Kd.C_below HV2.out hb))
 (try replace HV3 := Aside0.mk (Kd.C_below HV3.out hb))
 obtain ⟨A4, c4, rfl, hcv, hS⟩ := Kd.S_reads hS
 have HV1 := Aside0.mk hS
 have HL1 := Aside0.mk hcv
 (try clear HGC HGL)
 (try clear HRC HRL)
 clear hb hS hcv
 have x0 : w4.cell? ⟨b, 0, none⟩ = some (.int .i64 n) := heap_cell HX.out rfl
 have x1 : w4.cell? ⟨b, 1, none⟩ = some (.slice A l.length c) := heap_cell HX.out rfl
 go_wp2_with fail
 clear x0 x1
 refine (tangramref03_Copy.calls k n A c l n l w4 HG.out HCC.out HCG.out).mono ?_
 rintro e' w5 ⟨vg, rfl, hR, hb⟩
 replace HB := Aside0.mk (HB.out.trans (hb.mono HB.out.size))
 replace HX := Aside0.mk ((hb.block _ (lt_of HX.out)).trans HX.out)
 replace HG := Aside0.mk (Kd.C_below HG.out hb)
 replace HR := Aside0.mk (Kd.C_below HR.out hb)
 (try replace HGC := Aside0.mk (Kd.C_below HGC.out hb))
 (try replace HRC := Aside0.mk (Kd.C_below HRC.out hb))
 (try replace HV1 := Aside0.mk (Kd.C_below HV1.out hb))
 (try replace HV2 := Aside0.mk (Kd.C_below HV2.out hb))
 (try replace HV3 := Aside0.mk (Kd.C_below HV3.out hb))
 obtain ⟨Ag, cg, rfl, hcg, hR⟩ := Kd.R_reads hR
 have HGC := Aside0.mk hR
 have HGL := Aside0.mk hcg
 clear hb hR hcg
 go_wp2_with fail
 refine (tangramref11_Copy.calls k A1 c1 r r w5 HR.out HCR.out HCQ.out).mono ?_
 rintro e' w6 ⟨vr, rfl, hS, hb⟩
 replace HB := Aside0.mk (HB.out.trans (hb.mono HB.out.size))
 replace HX := Aside0.mk ((hb.block _ (lt_of HX.out)).trans HX.out)
 replace HG := Aside0.mk (Kd.C_below HG.out hb)
 replace HR := Aside0.mk (Kd.C_below HR.out hb)
 (try replace HGC := Aside0.mk (Kd.C_below HGC.out hb))
 (try replace HRC := Aside0.mk (Kd.C_below HRC.out hb))
 (try replace HV1 := Aside0.mk (Kd.C_below HV1.out hb))
 (try replace HV2 := Aside0.mk (Kd.C_below HV2.out hb))
 (try replace HV3 := Aside0.mk (Kd.C_below HV3.out hb))
 obtain ⟨Ar, cr, rfl, hcr, hS⟩ := Kd.S_reads hS
 have HRC := Aside0.mk hS
 have HRL := Aside0.mk hcr
 clear hb hS hcr
 go_wp2_with fail
 refine (faces_Left.calls k n Ag cg l Ar cr r lf e w6 HGC.out HGL.out HRC.out HRL.out H2.out).mono ?_
 rintro e' w7 ⟨vv, rfl, hS, hb⟩
 replace HB := Aside0.mk (HB.out.trans (hb.mono HB.out.size))
 replace HX := Aside0.mk ((hb.block _ (lt_of HX.out)).trans HX.out)
 replace HG := Aside0.mk (Kd.C_below HG.out hb)
 replace HR := Aside0.mk (Kd.C_below HR.out hb)
 (try replace HGC := Aside0.mk (Kd.C_below HGC.out hb))
 (try replace HRC := Aside0.mk (Kd.C_below HRC.out hb))
 (try replace HV1 := Aside0.mk (Kd.C_below HV1.out hb))
 (try replace HV2 := Aside0.mk (Kd.C_below HV2.out hb))
 (try replace HV3 := Aside0.mk (Kd.C_below HV3.out hb))
 obtain ⟨A7, c7, rfl, hcv, hS⟩ := Kd.R_reads hS
 have HV2 := Aside0.mk hS
 have HL2 := Aside0.mk hcv
 (try clear HGC HGL)
 (try clear HRC HRL)
 clear hb hS hcv
 have x0 : w7.cell? ⟨b, 0, none⟩ = some (.int .i64 n) := heap_cell HX.out rfl
 have x1 : w7.cell? ⟨b, 1, none⟩ = some (.slice A l.length c) := heap_cell HX.out rfl
 go_wp2_with fail
 clear x0 x1
 refine (tangramref03_Copy.calls k n A c l n l w7 HG.out HCC.out HCG.out).mono ?_
 rintro e' w8 ⟨vg, rfl, hR, hb⟩
 replace HB := Aside0.mk (HB.out.trans (hb.mono HB.out.size))
 replace HX := Aside0.mk ((hb.block _ (lt_of HX.out)).trans HX.out)
 replace HG := Aside0.mk (Kd.C_below HG.out hb)
 replace HR := Aside0.mk (Kd.C_below HR.out hb)
 (try replace HGC := Aside0.mk (Kd.C_below HGC.out hb))
 (try replace HRC := Aside0.mk (Kd.C_below HRC.out hb))
 (try replace HV1 := Aside0.mk (Kd.C_below HV1.out hb))
 (try replace HV2 := Aside0.mk (Kd.C_below HV2.out hb))
 (try replace HV3 := Aside0.mk (Kd.C_below HV3.out hb))
 obtain ⟨Ag, cg, rfl, hcg, hR⟩ := Kd.R_reads hR
 have HGC := Aside0.mk hR
 have HGL := Aside0.mk hcg
 clear hb hR hcg
 go_wp2_with fail
 refine (tangramref11_Copy.calls k A1 c1 r r w8 HR.out HCR.out HCQ.out).mono ?_
 rintro e' w9 ⟨vr, rfl, hS, hb⟩
 replace HB := Aside0.mk (HB.out.trans (hb.mono HB.out.size))
 replace HX := Aside0.mk ((hb.block _ (lt_of HX.out)).trans HX.out)
 replace HG := Aside0.mk (Kd.C_below HG.out hb)
 replace HR := Aside0.mk (Kd.C_below HR.out hb)
 (try replace HGC := Aside0.mk (Kd.C_below HGC.out hb))
 (try replace HRC := Aside0.mk (Kd.C_below HRC.out hb))
 (try replace HV1 := Aside0.mk (Kd.C_below HV1.out hb))
 (try replace HV2 := Aside0.mk (Kd.C_below HV2.out hb))
 (try replace HV3 := Aside0.mk (Kd.C_below HV3.out hb))
 obtain ⟨Ar, cr, rfl, hcr, hS⟩ := Kd.S_reads hS
 have HRC := Aside0.mk hS
 have HRL := Aside0.mk hcr
 clear hb hS hcr
 go_wp2_with fail
 refine (rot_Next.calls k n Ag cg l Ar cr r nx e w9 HGC.out HGL.out HRC.out HRL.out H3.out).mono ?_
 rintro e' w10 ⟨vv, rfl, hS, hb⟩
 replace HB := Aside0.mk (HB.out.trans (hb.mono HB.out.size))
 replace HX := Aside0.mk ((hb.block _ (lt_of HX.out)).trans HX.out)
 replace HG := Aside0.mk (Kd.C_below HG.out hb)
 replace HR := Aside0.mk (Kd.C_below HR.out hb)
 (try replace HGC := Aside0.mk (Kd.C_below HGC.out hb))
 (try replace HRC := Aside0.mk (Kd.C_below HRC.out hb))
 (try replace HV1 := Aside0.mk (Kd.C_below HV1.out hb))
 (try replace HV2 := Aside0.mk (Kd.C_below HV2.out hb))
 (try replace HV3 := Aside0.mk (Kd.C_below HV3.out hb))
 obtain ⟨A10, c10, rfl, hcv, hS⟩ := Kd.R_reads hS
 have HV3 := Aside0.mk hS
 have HL3 := Aside0.mk hcv
 (try clear HGC HGL)
 (try clear HRC HRL)
 clear hb hS hcv
 go_wp2_with fail
 go_ret
 exact ⟨by simp, HB.out⟩
theorem Kd.C_at {w : World} {ad : Addr} {n : Nat} {xs : List Int} (h : (Kd.int .i64).C w (some ad) n xs) (i : Nat) (hi : i < n) : w.cell? (ad.add i) = some (.int .i64 (gi xs i)) := by
 obtain ⟨_, e, y⟩ := Kd.at_int h (i : Int) (by omega) (by omega)
 injection e with e
 subst e
 rw [gi_rd, Int.toNat_natCast] at y
 exact y
set_option maxHeartbeats 4000000 in
set_option maxRecDepth 100000 in
theorem walk_ok (k : Nat) (n : Int) (A : Option Addr) (c : Nat) (l : List Ed) (A1 : Option Addr) (c1 : Nat) (r : List (List Int)) (w : World) (hr : Kd.C k56 w A l.length l) (hc : l.length ≤ c) (hr1 : Kd.C (Kd.slice 3 (Kd.int .i64)) w A1 r.length r) (hc1 : r.length ≤ c1)
   {e : Int} {fs : List (List Int)} {lf nx : List Int} (cg : tangramref03_Copy.f k n l = some (n, l)) (cr : tangramref11_Copy.f k r = some r) (h1 : faces_Of.f k n l r = some (fs, e)) (h2 : faces_Left.f k n l r = some (lf, e)) (h3 : rot_Next.f k n l r = some (nx, e))
   (he : e = 0) (hw : WalkOk fs lf nx) :
   Calls Try.prog 4 #[.agg #[.int .i64 n, .slice A l.length c], .slice A1 r.length c1] w fun e w' => e = .returned (.bool true) ∧ Below w.heap.size w w' := by
 have t1 : (e != 0) = false := bne_eq_false_iff_eq.2 he
 have HW := Aside0.mk hw
 obtain ⟨M, hM⟩ : ∃ M, M = nx.length := ⟨_, rfl⟩
 have hll : lf.length = M := by rw [hw.len, hM]
 have hnl : nx.length = M := hM.symm
 have HLL : Aside0 (lf.length = M ∧ nx.length = M) := ⟨hll, hnl⟩
 have hMb : M ≤ 8388608 := by rw [hM]; exact hw.nb
 have hfb := hw.fb
 clear hw he hM hll hnl
 have HCG := Aside0.mk cg
 have HCQ := Aside0.mk cr
 have H1 := Aside0.mk h1
 have H2 := Aside0.mk h2
 have H3 := Aside0.mk h3
 have t0 : (e != e) = false := bne_eq_false_iff_eq.2 rfl
 clear cg cr h1 h2 h3
 have HX := Aside0.mk (heap_last w (.cells #[.int .i64 n, .slice A l.length c] 24 (0, 0)))
 have HB : Aside0 (Below w.heap.size w (w.alloc (.cells #[.int .i64 n, .slice A l.length c] 24 (0, 0)))) := ⟨(Below.refl _ _).alloc (Nat.le_refl _) _⟩
 have HG := Aside0.mk (Kd.C_below hr HB.out)
 have HR := Aside0.mk (Kd.C_below hr1 HB.out)
 have HCC := Aside0.mk hc
 have HCR := Aside0.mk hc1
 clear hr hr1 hc hc1
 go_enter Try.func4, Try.ntmps4
 go_wp2_with fail
 generalize w.alloc (.cells #[.int .i64 n, .slice A l.length c] 24 (0, 0)) = w0 at HX HB HG HR ⊢
 obtain ⟨b, hbb⟩ : ∃ b, b = w.heap.size := ⟨_, rfl⟩
 rw [← hbb] at HX ⊢
 clear hbb
 refine (tangramlaw12_wakes.calls true w0 rfl).mono ?_
 rintro e' w1 ⟨rfl, hb⟩
 replace HB := Aside0.mk (HB.out.trans (hb.mono HB.out.size))
 replace HX := Aside0.mk ((hb.block _ (lt_of HX.out)).trans HX.out)
 replace HG := Aside0.mk (Kd.C_below HG.out hb)
 replace HR := Aside0.mk (Kd.C_below HR.out hb)
 (try replace HGC := Aside0.mk (Kd.C_below HGC.out hb))
 (try replace HRC := Aside0.mk (Kd.C_below HRC.out hb))
 (try replace HV1 := Aside0.mk (Kd.C_below HV1.out hb))
 (try replace HV2 := Aside0.mk (Kd.C_below HV2.out hb))
 (try replace HV3 := Aside0.mk (Kd.C_below HV3.out hb))
 clear hb
 have x0 : w1.cell? ⟨b, 0, none⟩ = some (.int .i64 n) := heap_cell HX.out rfl
 have x1 : w1.cell? ⟨b, 1, none⟩ = some (.slice A l.length c) := heap_cell HX.out rfl
 go_wp2_with fail
 clear x0 x1
 refine (tangramref03_Copy.calls k n A c l n l w1 HG.out HCC.out HCG.out).mono ?_
 rintro e' w2 ⟨vg, rfl, hR, hb⟩
 replace HB := Aside0.mk (HB.out.trans (hb.mono HB.out.size))
 replace HX := Aside0.mk ((hb.block _ (lt_of HX.out)).trans HX.out)
 replace HG := Aside0.mk (Kd.C_below HG.out hb)
 replace HR := Aside0.mk (Kd.C_below HR.out hb)
 (try replace HGC := Aside0.mk (Kd.C_below HGC.out hb))
 (try replace HRC := Aside0.mk (Kd.C_below HRC.out hb))
 (try replace HV1 := Aside0.mk (Kd.C_below HV1.out hb))
 (try replace HV2 := Aside0.mk (Kd.C_below HV2.out hb))
 (try replace HV3 := Aside0.mk (Kd.C_below HV3.out hb))
 obtain ⟨Ag, cg, rfl, hcg, hR⟩ := Kd.R_reads hR
 have HGC := Aside0.mk hR
 have HGL := Aside0.mk hcg
 clear hb hR hcg
 go_wp2_with fail
 refine (tangramref11_Copy.calls k A1 c1 r r w2 HR.out HCR.out HCQ.out).mono ?_
 rintro e' w3 ⟨vr, rfl, hS, hb⟩
 replace HB := Aside0.mk (HB.out.trans (hb.mono HB.out.size))
 replace HX := Aside0.mk ((hb.block _ (lt_of HX.out)).trans HX.out)
 replace HG := Aside0.mk (Kd.C_below HG.out hb)
 replace HR := Aside0.mk (Kd.C_below HR.out hb)
 (try replace HGC := Aside0.mk (Kd.C_below HGC.out hb))
 (try replace HRC := Aside0.mk (Kd.C_below HRC.out hb))
 (try replace HV1 := Aside0.mk (Kd.C_below HV1.out hb))
 (try replace HV2 := Aside0.mk (Kd.C_below HV2.out hb))
 (try replace HV3 := Aside0.mk (Kd.C_below HV3.out hb))
 obtain ⟨Ar, cr, rfl, hcr, hS⟩ := Kd.S_reads hS
 have HRC := Aside0.mk hS
 have HRL := Aside0.mk hcr
 clear hb hS hcr
 go_wp2_with fail
 refine (faces_Of.calls k n Ag cg l Ar cr r fs e w3 HGC.out HGL.out HRC.out HRL.out H1.out).mono ?_
 rintro e' w4 ⟨vv, rfl, hS, hb⟩
 replace HB := Aside0.mk (HB.out.trans (hb.mono HB.out.size))
 replace HX := Aside0.mk ((hb.block _ (lt_of HX.out)).trans HX.out)
 replace HG := Aside0.mk (Kd.C_below HG.out hb)
 replace HR := Aside0.mk (Kd.C_below HR.out hb)
 (try replace HGC := Aside0.mk (Kd.C_below HGC.out hb))
 (try replace HRC := Aside0.mk (Kd.C_below HRC.out hb))
 (try replace HV1 := Aside0.mk (Kd.C_below HV1.out hb))
 (try replace HV2 := Aside0.mk (Kd.C_below HV2.out hb))
 (try replace HV3 := Aside0.mk (Kd.C_below HV3.out hb))
 obtain ⟨A4, c4, rfl, hcv, hS⟩ := Kd.S_reads hS
 have HV1 := Aside0.mk hS
 have HL1 := Aside0.mk hcv
 (try clear HGC HGL)
 (try clear HRC HRL)
 clear hb hS hcv
 have x0 : w4.cell? ⟨b, 0, none⟩ = some (.int .i64 n) := heap_cell HX.out rfl
 have x1 : w4.cell? ⟨b, 1, none⟩ = some (.slice A l.length c) := heap_cell HX.out rfl
 go_wp2_with fail
 clear x0 x1
 refine (tangramref03_Copy.calls k n A c l n l w4 HG.out HCC.out HCG.out).mono ?_
 rintro e' w5 ⟨vg, rfl, hR, hb⟩
 replace HB := Aside0.mk (HB.out.trans (hb.mono HB.out.size))
 replace HX := Aside0.mk ((hb.block _ (lt_of HX.out)).trans HX.out)
 replace HG := Aside0.mk (Kd.C_below HG.out hb)
 replace HR := Aside0.mk (Kd.C_below HR.out hb)
 (try replace HGC := Aside0.mk (Kd.C_below HGC.out hb))
 (try replace HRC := Aside0.mk (Kd.C_below HRC.out hb))
 (try replace HV1 := Aside0.mk (Kd.C_below HV1.out hb))
 (try replace HV2 := Aside0.mk (Kd.C_below HV2.out hb))
 (try replace HV3 := Aside0.mk (Kd.C_below HV3.out hb))
 obtain ⟨Ag, cg, rfl, hcg, hR⟩ := Kd.R_reads hR
 have HGC := Aside0.mk hR
 have HGL := Aside0.mk hcg
 clear hb hR hcg
 go_wp2_with fail
 refine (tangramref11_Copy.calls k A1 c1 r r w5 HR.out HCR.out HCQ.out).mono ?_
 rintro e' w6 ⟨vr, rfl, hS, hb⟩
 replace HB := Aside0.mk (HB.out.trans (hb.mono HB.out.size))
 replace HX := Aside0.mk ((hb.block _ (lt_of HX.out)).trans HX.out)
 replace HG := Aside0.mk (Kd.C_below HG.out hb)
 replace HR := Aside0.mk (Kd.C_below HR.out hb)
 (try replace HGC := Aside0.mk (Kd.C_below HGC.out hb))
 (try replace HRC := Aside0.mk (Kd.C_below HRC.out hb))
 (try replace HV1 := Aside0.mk (Kd.C_below HV1.out hb))
 (try replace HV2 := Aside0.mk (Kd.C_below HV2.out hb))
 (try replace HV3 := Aside0.mk (Kd.C_below HV3.out hb))
 obtain ⟨Ar, cr, rfl, hcr, hS⟩ := Kd.S_reads hS
 have HRC := Aside0.mk hS
 have HRL := Aside0.mk hcr
 clear hb hS hcr
 go_wp2_with fail
 refine (faces_Left.calls k n Ag cg l Ar cr r lf e w6 HGC.out HGL.out HRC.out HRL.out H2.out).mono ?_
 rintro e' w7 ⟨vv, rfl, hS, hb⟩
 replace HB := Aside0.mk (HB.out.trans (hb.mono HB.out.size))
 replace HX := Aside0.mk ((hb.block _ (lt_of HX.out)).trans HX.out)
 replace HG := Aside0.mk (Kd.C_below HG.out hb)
 replace HR := Aside0.mk (Kd.C_below HR.out hb)
 (try replace HGC := Aside0.mk (Kd.C_below HGC.out hb))
 (try replace HRC := Aside0.mk (Kd.C_below HRC.out hb))
 (try replace HV1 := Aside0.mk (Kd.C_below HV1.out hb))
 (try replace HV2 := Aside0.mk (Kd.C_below HV2.out hb))
 (try replace HV3 := Aside0.mk (Kd.C_below HV3.out hb))
 obtain ⟨A7, c7, rfl, hcv, hS⟩ := Kd.R_reads hS
 have HV2 := Aside0.mk hS
 have HL2 := Aside0.mk hcv
 (try clear HGC HGL)
 (try clear HRC HRL)
 clear hb hS hcv
 have x0 : w7.cell? ⟨b, 0, none⟩ = some (.int .i64 n) := heap_cell HX.out rfl
 have x1 : w7.cell? ⟨b, 1, none⟩ = some (.slice A l.length c) := heap_cell HX.out rfl
 go_wp2_with fail
 clear x0 x1
 refine (tangramref03_Copy.calls k n A c l n l w7 HG.out HCC.out HCG.out).mono ?_
 rintro e' w8 ⟨vg, rfl, hR, hb⟩
 replace HB := Aside0.mk (HB.out.trans (hb.mono HB.out.size))
 replace HX := Aside0.mk ((hb.block _ (lt_of HX.out)).trans HX.out)
 replace HG := Aside0.mk (Kd.C_below HG.out hb)
 replace HR := Aside0.mk (Kd.C_below HR.out hb)
 (try replace HGC := Aside0.mk (Kd.C_below HGC.out hb))
 (try replace HRC := Aside0.mk (Kd.C_below HRC.out hb))
 (try replace HV1 := Aside0.mk (Kd.C_below HV1.out hb))
 (try replace HV2 := Aside0.mk (Kd.C_below HV2.out hb))
 (try replace HV3 := Aside0.mk (Kd.C_below HV3.out hb))
 obtain ⟨Ag, cg, rfl, hcg, hR⟩ := Kd.R_reads hR
 have HGC := Aside0.mk hR
 have HGL := Aside0.mk hcg
 clear hb hR hcg
 go_wp2_with fail
 refine (tangramref11_Copy.calls k A1 c1 r r w8 HR.out HCR.out HCQ.out).mono ?_
 rintro e' w9 ⟨vr, rfl, hS, hb⟩
 replace HB := Aside0.mk (HB.out.trans (hb.mono HB.out.size))
 replace HX := Aside0.mk ((hb.block _ (lt_of HX.out)).trans HX.out)
 replace HG := Aside0.mk (Kd.C_below HG.out hb)
 replace HR := Aside0.mk (Kd.C_below HR.out hb)
 (try replace HGC := Aside0.mk (Kd.C_below HGC.out hb))
 (try replace HRC := Aside0.mk (Kd.C_below HRC.out hb))
 (try replace HV1 := Aside0.mk (Kd.C_below HV1.out hb))
 (try replace HV2 := Aside0.mk (Kd.C_below HV2.out hb))
 (try replace HV3 := Aside0.mk (Kd.C_below HV3.out hb))
 obtain ⟨Ar, cr, rfl, hcr, hS⟩ := Kd.S_reads hS
 have HRC := Aside0.mk hS
 have HRL := Aside0.mk hcr
 clear hb hS hcr
 go_wp2_with fail
 refine (rot_Next.calls k n Ag cg l Ar cr r nx e w9 HGC.out HGL.out HRC.out HRL.out H3.out).mono ?_
 rintro e' w10 ⟨vv, rfl, hS, hb⟩
 replace HB := Aside0.mk (HB.out.trans (hb.mono HB.out.size))
 replace HX := Aside0.mk ((hb.block _ (lt_of HX.out)).trans HX.out)
 replace HG := Aside0.mk (Kd.C_below HG.out hb)
 replace HR := Aside0.mk (Kd.C_below HR.out hb)
 (try replace HGC := Aside0.mk (Kd.C_below HGC.out hb))
 (try replace HRC := Aside0.mk (Kd.C_below HRC.out hb))
 (try replace HV1 := Aside0.mk (Kd.C_below HV1.out hb))
 (try replace HV2 := Aside0.mk (Kd.C_below HV2.out hb))
 (try replace HV3 := Aside0.mk (Kd.C_below HV3.out hb))
 obtain ⟨A10, c10, rfl, hcv, hS⟩ := Kd.R_reads hS
 have HV3 := Aside0.mk hS
 have HL3 := Aside0.mk hcv
 (try clear HGC HGL)
 (try clear HRC HRL)
 clear hb hS hcv
 rw [HLL.out.1, HLL.out.2]
 have t2 : ((M : Int) != (M : Int)) = false := bne_eq_false_iff_eq.2 rfl
 clear HG HR HX HCG HCQ H1 H2 H3
 have HE : Aside0 (Below w10.heap.size w10 w10) := ⟨Below.refl _ _⟩
 go_wp2_with fail
 clear t0 t1 t2
 go_loopw [11, 12] (fun a y wr => ∃ (q : Nat), y = .int .i64 (q : Int) ∧ a = .int .i64 (walkTo fs q : Int) ∧ q ≤ fs.length ∧ Aside0 (Below w10.heap.size w10 wr)) (fun _ y _ => fs.length - (intOf y).toNat)
 case atStart => exact ⟨0, rfl, rfl, by omega, HE⟩
 case round =>
   clear HE
   obtain ⟨q, rfl, rfl, hq, HE⟩ := hrel
   by_cases hlt : q < fs.length
   · have hpos := HW.out.pos q hlt
     obtain ⟨ad, D, cD, eA, hx0, hcD, hrow⟩ := row_at HV1.out hlt
     obtain ⟨row, hrw⟩ : ∃ row, row = gl fs q := ⟨_, rfl⟩
     rw [← hrw] at hx0 hcD hrow
     rw [← hrw] at hpos
     subst eA
     have HRW := Aside0.mk hrw
     have HXA : Aside0 (∀ wz, Below w10.heap.size w10 wz → wz.cell? (ad.add q) = some (.slice D row.length cD)) := ⟨fun wz hz => (hz.cell (cell_lt hx0)).trans hx0⟩
     obtain ⟨adD, eD, z0⟩ := Kd.at_int hrow 0 (by omega) (by omega)
     subst eD
     have HROW := Aside0.mk hrow
     clear z0 hx0
     obtain ⟨f0, hf0⟩ : ∃ f0, f0 = gi row 0 := ⟨_, rfl⟩
     have HF0 := Aside0.mk hf0
     have z0 := (Kd.C_at (Kd.C_below HROW.out HE.out) 0 hpos).trans (by rw [← HF0.out])
     have z0' := z0
     rw [Addr.add_zero'] at z0'
     have hx0 := HXA.out wr HE.out
     have hrb := HW.out.rb q hlt
     rw [← hrw] at hrb
     have t1 : ((row.length : Int) == 0) = false := beq_eq_false_iff_ne.2 (by omega)
     have hsm : walkTo fs (q + 1) ≤ 8388608 := HW.out.sb (q + 1) (by omega)
     have hsu : walkTo fs (q + 1) = walkTo fs q + row.length := by rw [hrw]; rfl
     obtain ⟨S, hS⟩ : ∃ S, S = walkTo fs q := ⟨_, rfl⟩
     rw [← hS] at hsu ⊢
     have HSU := Aside0.mk hsu
     have hSb : S + row.length ≤ 8388608 := by omega
     clear hrow hrw hf0 hS hsu hsm
     by_cases hq0 : 0 < q
     · obtain ⟨_, D2, cD2, eA2, hx2, hcD2, hrow2⟩ := row_at HV1.out (show q - 1 < fs.length by omega)
       injection eA2 with eA2
       subst eA2
       have hpos2 := HW.out.pos (q - 1) (by omega)
       have hri := HW.out.rise (q - 1) (by omega)
       rw [show q - 1 + 1 = q by omega, ← HRW.out, ← HF0.out] at hri
       obtain ⟨row2, hrw2⟩ : ∃ row2, row2 = gl fs (q - 1) := ⟨_, rfl⟩
       rw [← hrw2] at hx2 hcD2 hrow2 hpos2 hri
       obtain ⟨adE, eE, z2⟩ := Kd.at_int hrow2 0 (by omega) (by omega)
       subst eE
       clear z2
       have z2 := Kd.C_at (Kd.C_below hrow2 HE.out) 0 hpos2
       have z2' := z2
       rw [Addr.add_zero'] at z2'
       obtain ⟨g0, hg0⟩ : ∃ g0, g0 = gi row2 0 := ⟨_, rfl⟩
       rw [← hg0] at z2 z2' hri
       obtain ⟨q1, hq1⟩ : ∃ q1, q1 = q - 1 := ⟨_, rfl⟩
       rw [← hq1] at hx2
       replace hx2 := (HE.out.cell (cell_lt hx2)).trans hx2
       have r1 : IntKind.i64.wrap ((q : Int) - 1) = (q1 : Int) := by rw [IntWalk.i64_in _ (by omega)]; omega
       have s1 : decide ((q : Int) > 0) = true := decide_eq_true (by omega)
       have s2 : decide (f0 ≤ g0) = false := decide_eq_false (by omega)
       have hq1l : q1 < fs.length := by omega
       have hr2 : 0 < row2.length := hpos2
       clear hrow2 hrw2 hg0 hri hq1 hpos2
       go_wp2_with fail
       go_quiet (fail)
       have HE5 : Aside0 (Below w10.heap.size w10 (wr.drewN nq)) := ⟨ValH.below_drewN HE.out nq⟩
       generalize wr.drewN nq = w5 at HE5 ⊢
       clear HE z0 z0' hx0 s1
       (try clear s2 r1 z2 z2' hx2)
       have HE := HE5
       clear HE5
       go_wp2_with fail
       go_loopw [11, 13] (fun a y wr => ∃ (i s : Nat), y = .int .i64 (i : Int) ∧ a = .int .i64 (s : Int) ∧ s = S + i ∧ i ≤ row.length ∧ Aside0 (Below w10.heap.size w10 wr)) (fun _ y _ => row.length - (intOf y).toNat)
       case atStart => exact ⟨0, S, rfl, rfl, rfl, by omega, HE⟩
       case round =>
         clear HE
         obtain ⟨i, s, rfl, rfl, hs, hi, HE⟩ := hrel
         have hx0 := HXA.out wr HE.out
         by_cases hil : i < row.length
         · obtain ⟨h, t, e1, e2, e3, e4, e5, e6, e7, e8⟩ := HW.out.elem q i hlt (by rw [← HRW.out]; exact hil)
           rw [← HRW.out] at e1 e2 e7 e8
           rw [← HF0.out] at e2 e8
           have hhM : h < M := by rw [← HLL.out.2]; exact e3
           have htM : t < M := by rw [← HLL.out.2]; exact e6
           obtain ⟨p, hp⟩ : ∃ p, p = (i + 1) % row.length := ⟨_, rfl⟩
           have hpl : p < row.length := by rw [hp]; exact Nat.mod_lt _ (by omega)
           rw [← hp] at e7
           obtain ⟨g, hg⟩ : ∃ g, g = gi row p := ⟨_, rfl⟩
           rw [← hg] at e7
           have hC := Kd.C_below HROW.out HE.out
           have y0 := (Kd.C_at hC 0 hpos).trans (by rw [← HF0.out])
           have y0' := y0
           rw [Addr.add_zero'] at y0'
           have y1 := (Kd.C_at hC i hil).trans (by rw [e1])
           have y2 := (Kd.C_at hC p hpl).trans (by rw [← hg])
           obtain ⟨adl, el, y3⟩ := Kd.at_int (Kd.C_below HV2.out HE.out) (h : Int) (by omega) (by rw [HLL.out.1]; omega)
           obtain ⟨adn, en, y4⟩ := Kd.at_int (Kd.C_below HV3.out HE.out) (t : Int) (by omega) (by rw [HLL.out.2]; omega)
           rw [gi_rd, Int.toNat_natCast, e4] at y3
           rw [gi_rd, Int.toNat_natCast, e7] at y4
           subst el en
           have s1 : decide ((h : Int) < 0) = false := decide_eq_false (by omega)
           have s2 : decide ((h : Int) < f0) = false := decide_eq_false (by omega)
           have s3 : decide ((h : Int) ≥ (M : Int)) = false := decide_eq_false (by omega)
           have s3' : decide ((M : Int) ≤ (h : Int)) = false := decide_eq_false (by omega)
           have s3n : decide (M ≤ h) = false := decide_eq_false (by omega)
           have s4 : ((q : Int) != (q : Int)) = false := bne_eq_false_iff_eq.2 rfl
           have s5 : (g != g) = false := bne_eq_false_iff_eq.2 rfl
           obtain ⟨i1, hi1⟩ : ∃ i1, i1 = i + 1 := ⟨_, rfl⟩
           have r1 : IntKind.i64.wrap ((i : Int) + 1) = (i1 : Int) := by rw [IntWalk.i64_in _ (by omega)]; omega
           have r2 : Int.tmod (i1 : Int) (row.length : Int) = (p : Int) := by rw [hp, hi1]; rfl
           have r4 : ((row.length : Int) == 0) = false := beq_eq_false_iff_ne.2 (by omega)
           have r5 : ¬ (row.length : Int) = 0 := by omega
           obtain ⟨s', hs'⟩ : ∃ s', s' = s + 1 := ⟨_, rfl⟩
           have r9 : IntKind.i64.wrap ((s : Int) + 1) = (s' : Int) := by rw [IntWalk.i64_in _ (by omega)]; omega
           have HS1 : Aside0 (s' = S + (i + 1)) := ⟨by omega⟩
           clear hs hs'
           have HI1 := Aside0.mk hi1
           by_cases hi0 : 0 < i
           · have s6 : decide ((i : Int) > 0) = true := decide_eq_true (by omega)
             have s6' : decide ((0 : Int) < (i : Int)) = true := decide_eq_true (by omega)
             have s6n : decide (0 < i) = true := decide_eq_true (by omega)
             have s7 : ((h : Int) == f0) = false := beq_eq_false_iff_ne.2 (e8 hi0)
             clear e1 e2 e3 e4 e6 e7 e8 hp hg hi1 hi0 hC
             go_wp2_with fail
             go_quiet (fail)
             go_wp2_with fail
             clear s1 s2 s3 s3' s3n s4 s5 s6 s6' s6n y0 y0' y1 y2 y3 y4 hx0
             go_roundw
             case rel => exact ⟨i + 1, s', by rw [← HI1.out], rfl, HS1.out, by omega, ⟨ValH.below_drewN HE.out _⟩⟩
             case measure => have hi2 := HI1.out; simp [intOf]; omega
           · have s6 : decide ((i : Int) > 0) = false := decide_eq_false (by omega)
             have s6' : decide ((0 : Int) < (i : Int)) = false := decide_eq_false (by omega)
             have s6n : decide (0 < i) = false := decide_eq_false (by omega)
             clear e1 e2 e3 e4 e6 e7 e8 hp hg hi1 hi0 hC
             go_wp2_with fail
             go_quiet (fail)
             go_wp2_with fail
             clear s1 s2 s3 s3' s3n s4 s5 s6 s6' s6n y0 y0' y1 y2 y3 y4 hx0
             go_roundw
             case rel => exact ⟨i + 1, s', by rw [← HI1.out], rfl, HS1.out, by omega, ⟨ValH.below_drewN HE.out _⟩⟩
             case measure => have hi2 := HI1.out; simp [intOf]; omega
         · obtain rfl : i = row.length := by omega
           obtain rfl : s = walkTo fs (q + 1) := by rw [hs, HSU.out]
           clear hs
           go_wp2_with fail
           go_roundw
           case rel => exact ⟨q + 1, by go_num, rfl, by omega, HE⟩
           case measure => simp [intOf]; omega
     · have s1 : decide ((q : Int) > 0) = false := decide_eq_false (by omega)
       go_wp2_with fail
       go_quiet (fail)
       have HE5 : Aside0 (Below w10.heap.size w10 (wr.drewN nq)) := ⟨ValH.below_drewN HE.out nq⟩
       generalize wr.drewN nq = w5 at HE5 ⊢
       clear HE z0 z0' hx0 s1
       (try clear s2 r1 z2 z2' hx2)
       have HE := HE5
       clear HE5
       go_wp2_with fail
       go_loopw [11, 13] (fun a y wr => ∃ (i s : Nat), y = .int .i64 (i : Int) ∧ a = .int .i64 (s : Int) ∧ s = S + i ∧ i ≤ row.length ∧ Aside0 (Below w10.heap.size w10 wr)) (fun _ y _ => row.length - (intOf y).toNat)
       case atStart => exact ⟨0, S, rfl, rfl, rfl, by omega, HE⟩
       case round =>
         clear HE
         obtain ⟨i, s, rfl, rfl, hs, hi, HE⟩ := hrel
         have hx0 := HXA.out wr HE.out
         by_cases hil : i < row.length
         · obtain ⟨h, t, e1, e2, e3, e4, e5, e6, e7, e8⟩ := HW.out.elem q i hlt (by rw [← HRW.out]; exact hil)
           rw [← HRW.out] at e1 e2 e7 e8
           rw [← HF0.out] at e2 e8
           have hhM : h < M := by rw [← HLL.out.2]; exact e3
           have htM : t < M := by rw [← HLL.out.2]; exact e6
           obtain ⟨p, hp⟩ : ∃ p, p = (i + 1) % row.length := ⟨_, rfl⟩
           have hpl : p < row.length := by rw [hp]; exact Nat.mod_lt _ (by omega)
           rw [← hp] at e7
           obtain ⟨g, hg⟩ : ∃ g, g = gi row p := ⟨_, rfl⟩
           rw [← hg] at e7
           have hC := Kd.C_below HROW.out HE.out
           have y0 := (Kd.C_at hC 0 hpos).trans (by rw [← HF0.out])
           have y0' := y0
           rw [Addr.add_zero'] at y0'
           have y1 := (Kd.C_at hC i hil).trans (by rw [e1])
           have y2 := (Kd.C_at hC p hpl).trans (by rw [← hg])
           obtain ⟨adl, el, y3⟩ := Kd.at_int (Kd.C_below HV2.out HE.out) (h : Int) (by omega) (by rw [HLL.out.1]; omega)
           obtain ⟨adn, en, y4⟩ := Kd.at_int (Kd.C_below HV3.out HE.out) (t : Int) (by omega) (by rw [HLL.out.2]; omega)
           rw [gi_rd, Int.toNat_natCast, e4] at y3
           rw [gi_rd, Int.toNat_natCast, e7] at y4
           subst el en
           have s1 : decide ((h : Int) < 0) = false := decide_eq_false (by omega)
           have s2 : decide ((h : Int) < f0) = false := decide_eq_false (by omega)
           have s3 : decide ((h : Int) ≥ (M : Int)) = false := decide_eq_false (by omega)
           have s3' : decide ((M : Int) ≤ (h : Int)) = false := decide_eq_false (by omega)
           have s3n : decide (M ≤ h) = false := decide_eq_false (by omega)
           have s4 : ((q : Int) != (q : Int)) = false := bne_eq_false_iff_eq.2 rfl
           have s5 : (g != g) = false := bne_eq_false_iff_eq.2 rfl
           obtain ⟨i1, hi1⟩ : ∃ i1, i1 = i + 1 := ⟨_, rfl⟩
           have r1 : IntKind.i64.wrap ((i : Int) + 1) = (i1 : Int) := by rw [IntWalk.i64_in _ (by omega)]; omega
           have r2 : Int.tmod (i1 : Int) (row.length : Int) = (p : Int) := by rw [hp, hi1]; rfl
           have r4 : ((row.length : Int) == 0) = false := beq_eq_false_iff_ne.2 (by omega)
           have r5 : ¬ (row.length : Int) = 0 := by omega
           obtain ⟨s', hs'⟩ : ∃ s', s' = s + 1 := ⟨_, rfl⟩
           have r9 : IntKind.i64.wrap ((s : Int) + 1) = (s' : Int) := by rw [IntWalk.i64_in _ (by omega)]; omega
           have HS1 : Aside0 (s' = S + (i + 1)) := ⟨by omega⟩
           clear hs hs'
           have HI1 := Aside0.mk hi1
           by_cases hi0 : 0 < i
           · have s6 : decide ((i : Int) > 0) = true := decide_eq_true (by omega)
             have s6' : decide ((0 : Int) < (i : Int)) = true := decide_eq_true (by omega)
             have s6n : decide (0 < i) = true := decide_eq_true (by omega)
             have s7 : ((h : Int) == f0) = false := beq_eq_false_iff_ne.2 (e8 hi0)
             clear e1 e2 e3 e4 e6 e7 e8 hp hg hi1 hi0 hC
             go_wp2_with fail
             go_quiet (fail)
             go_wp2_with fail
             clear s1 s2 s3 s3' s3n s4 s5 s6 s6' s6n y0 y0' y1 y2 y3 y4 hx0
             go_roundw
             case rel => exact ⟨i + 1, s', by rw [← HI1.out], rfl, HS1.out, by omega, ⟨ValH.below_drewN HE.out _⟩⟩
             case measure => have hi2 := HI1.out; simp [intOf]; omega
           · have s6 : decide ((i : Int) > 0) = false := decide_eq_false (by omega)
             have s6' : decide ((0 : Int) < (i : Int)) = false := decide_eq_false (by omega)
             have s6n : decide (0 < i) = false := decide_eq_false (by omega)
             clear e1 e2 e3 e4 e6 e7 e8 hp hg hi1 hi0 hC
             go_wp2_with fail
             go_quiet (fail)
             go_wp2_with fail
             clear s1 s2 s3 s3' s3n s4 s5 s6 s6' s6n y0 y0' y1 y2 y3 y4 hx0
             go_roundw
             case rel => exact ⟨i + 1, s', by rw [← HI1.out], rfl, HS1.out, by omega, ⟨ValH.below_drewN HE.out _⟩⟩
             case measure => have hi2 := HI1.out; simp [intOf]; omega
         · obtain rfl : i = row.length := by omega
           obtain rfl : s = walkTo fs (q + 1) := by rw [hs, HSU.out]
           clear hs
           go_wp2_with fail
           go_roundw
           case rel => exact ⟨q + 1, by go_num, rfl, by omega, HE⟩
           case measure => simp [intOf]; omega
   · obtain rfl : q = fs.length := by omega
     have e1 : walkTo fs fs.length = M := by rw [HW.out.count, HLL.out.2]
     rw [e1]
     have t3 : ((M : Int) == (M : Int)) = true := beq_iff_eq.2 rfl
     clear e1
     go_wp2_with fail
     go_ret
     exact ⟨by simp, HB.out.trans (HE.out.mono HB.out.size)⟩
theorem FacesWalk (a0_0 : Int) (A0_1 : Option Addr) (c0_1 : Nat) (l0_1 : List Ed) (A1 : Option Addr) (c1 : Nat) (l1 : List (List Int)) (w : World) (hr0_1 : Kd.C k56 w A0_1 l0_1.length l0_1) (hc0_1 : l0_1.length ≤ c0_1) (hr1 : Kd.C (Kd.slice 3 (Kd.int .i64)) w A1 l1.length l1) (hc1 : l1.length ≤ c1)
   (g0 : Open.I64 a0_0 ∧ l0_1.length * 16 ≤ 140737488351232 ∧ ∀ x ∈ l0_1, Open.I64 x.f0 ∧ Open.I64 x.f1) (g1 : l1.length * 24 ≤ 140737488351232 ∧ ∀ x ∈ l1, x.length * 8 ≤ 140737488351232 ∧ ∀ y ∈ x, Open.I64 y) :
   Calls Try.prog 4 #[.agg #[.int .i64 a0_0, .slice A0_1 l0_1.length c0_1], .slice A1 l1.length c1] w fun e w' => e = .returned (.bool true) ∧ Below w.heap.size w w' := by
 have hs : Small l1 := ⟨g1.1, fun l hl => (g1.2 l hl).1⟩
 obtain ⟨K1, q1⟩ := copy3_ev a0_0 l0_1 (by omega)
 obtain ⟨K2, q2⟩ := copy11_ev l1 hs
 obtain ⟨res, h1, h2, h3, h4, h5⟩ := both_check a0_0 l0_1 l1 hs
 by_cases he : res.2 = 0
 · obtain ⟨N, rfl, hg, hr⟩ := h4.1 he
   have hm : IsMap N l0_1 l1 := ⟨hg, hr⟩
   have hk1 : Ev (fun k => rot_Check.f k (N : Int) l0_1 l1) (0, 0) := by rw [h3 he] at h1; exact h1
   obtain ⟨K3, q3⟩ := of_ok hm hk1
   obtain ⟨K4, q4⟩ := left_ok hm hk1
   obtain ⟨K5, q5⟩ := next_ev hm hk1
   exact walk_ok (K1 + K2 + K3 + K4 + K5) (N : Int) A0_1 c0_1 l0_1 A1 c1 l1 w hr0_1 hc0_1 hr1 hc1 (q1 _ (by omega)) (q2 _ (by omega)) (q3 _ (by omega)) (q4 _ (by omega)) (q5 _ (by omega)) rfl hm.walkOk
 · obtain ⟨v, e⟩ := res
   obtain ⟨K3, q3⟩ := of_bad he h1
   obtain ⟨K4, q4⟩ := left_bad he h1
   obtain ⟨K5, q5⟩ := next_bad he h1
   exact walk_bad (K1 + K2 + K3 + K4 + K5) a0_0 A0_1 c0_1 l0_1 A1 c1 l1 w hr0_1 hc0_1 hr1 hc1 (q1 _ (by omega)) (q2 _ (by omega)) (q3 _ (by omega)) (q4 _ (by omega)) (q5 _ (by omega)) he rfl rfl
end Go.Proofs.Ytmikcfddipldnaa.Rot
