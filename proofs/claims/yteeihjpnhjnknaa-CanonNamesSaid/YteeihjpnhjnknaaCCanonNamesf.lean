/- DERIVED. Texts of this seat, one behind the other: lemmas and walks that the statement CanonNames needs. No condition. -/
import Derived.Test.YteeihjpnhjnknaaCCanonNamese
import Derived.Test.YteeihjpnhjnknaaCCanonNamesc
import Derived.Test.YteeihjpnhjnknaaCCanonNamesd
namespace Go.Proofs.Yteeihjpnhjnknaa.GAll
open Go.RowKit Go.Proofs.YteeihjpnhjnknaaW.PrintWords Go.Proofs.YteeihjpnhjnknaaW.PrintLast Go.Proofs.YteeihjpnhjnknaaW.PrintMore
attribute [local go_sem] max2_int min2_int max_two min_two max_three min_three max_four min_four   -- for this text's walks alone
set_option linter.unusedVariables false
set_option linter.unusedSimpArgs false
def tangramlaw21_copied.f (k : Nat) (a0_0 : Int) (l0_1 : List (S89)) (l0_2 : List (List Int)) : Option (Int × (List (S89)) × (List (List Int))) := (tangramref03_Copy.f k a0_0 l0_1).bind fun bt167 => ((tangramref11_Copy.f k l0_2).bind fun t171 => (some (bt167.1, bt167.2, t171)))
theorem tangramlaw21_copied.mono : ∀ a0 a1 a2 k, LeO (tangramlaw21_copied.f k a0 a1 a2) (tangramlaw21_copied.f (k + 1) a0 a1 a2) := by
 intro a0 a1 a2 k
 unfold tangramlaw21_copied.f
 repeat' first
   | (with_reducible exact tangramref03_Copy.mono _ _ _)
   | (with_reducible exact tangramref11_Copy.mono _ _)
   | (with_reducible exact LeO.refl _)
   | (with_reducible exact LeO.none _)
   | (with_reducible refine LeO.ite ?_ ?_)
   | (with_reducible refine LeO.bind ?_ (fun _ => ?_))
   | exact tangramref03_Copy.mono _ _ _
   | exact tangramref11_Copy.mono _ _
   | exact LeO.none _
   | refine LeO.ite ?_ ?_
   | refine LeO.bind ?_ (fun _ => ?_)
def tangramlaw21_copied.T1 : Bool × List (List Nat × List Nat) := (true, [([], []), ([0], [0]), ([1], [1]), ([], []), ([3], [3]), ([4, 2], [4]), ([2, 5, 0, 1, 2], [2]), ([5, 6, 0, 1, 2, 3, 4, 5, 6], [5])])
def tangramlaw21_copied.B1 : List Nat := [0, 1, 3, 0, 8, 31, 63, 127]
theorem tangramlaw21_copied.tab1 : rtab .any (opsOf Try.f12 1) = tangramlaw21_copied.T1 := by kernel_rfl
theorem tangramlaw21_copied.bits1 : waitsOk tangramlaw21_copied.T1.2 tangramlaw21_copied.B1 = true := by kernel_rfl
set_option maxHeartbeats 8000000 in
set_option maxRecDepth 100000 in
theorem tangramlaw21_copied.calls (k : Nat) (a0_0 : Int) (A0_1 : Option Addr) (c0_1 : Nat) (l0_1 : List (S89)) (A0_2 : Option Addr) (c0_2 : Nat) (l0_2 : List (List Int)) (r1 : Int) (r2 : List (S89)) (r3 : List (List Int)) (w : World) (hr0_1 : Kd.C k89 w A0_1 l0_1.length l0_1) (hc0_1 : l0_1.length ≤ c0_1) (hr0_2 : Kd.C (Kd.slice 3 (Kd.int .i64)) w A0_2 l0_2.length l0_2) (hc0_2 : l0_2.length ≤ c0_2) (h : tangramlaw21_copied.f k a0_0 l0_1 l0_2 = some (r1, r2, r3)) :
  Calls Try.prog 12 #[.agg #[.int .i64 a0_0, .slice A0_1 l0_1.length c0_1, .slice A0_2 l0_2.length c0_2]] w fun e w' => ∃ v1_ v2_ : Value, e = .returned (.tuple #[.agg #[.int .i64 r1, v1_], v2_]) ∧ Kd.R k89 89 w' w.heap.size (fun _ => True) v1_ r2 ∧ Kd.S (Kd.slice 3 (Kd.int .i64)) 32 w' w.heap.size (fun _ => True) v2_ r3 ∧ Below w.heap.size w w' := by
 have hu31 := Try.underlying31
 have hu24 := Try.underlying24
 have HR0_1 := Aside0.mk hr0_1
 have HC0_1 := Aside0.mk hc0_1
 clear hr0_1 hc0_1
 have HR0_2 := Aside0.mk hr0_2
 have HC0_2 := Aside0.mk hc0_2
 clear hr0_2 hc0_2
 have HB := Aside0.mk (Below.refl w.heap.size w)
 have H : ((tangramref03_Copy.f k a0_0 l0_1).bind fun bt167 => ((tangramref11_Copy.f k l0_2).bind fun t171 => (some (bt167.1, bt167.2, t171)))) = some (r1, r2, r3) := h
 clear h
 replace H := Option.bind_eq_some_iff.mp H
 obtain ⟨⟨t167, t168⟩, A20, H⟩ := H
 replace H : ((tangramref11_Copy.f k l0_2).bind fun t171 => (some (t167, t168, t171))) = some (r1, r2, r3) := H
 have A2 := Aside0.mk A20
 clear A20
 replace H := Option.bind_eq_some_iff.mp H
 obtain ⟨t171, A30, H⟩ := H
 replace H : (some (t167, t168, t171)) = some (r1, r2, r3) := H
 have A3 := Aside0.mk A30
 clear A30
 simp only [Option.some.injEq, Prod.mk.injEq] at H
 obtain ⟨rfl, rfl, rfl⟩ := H
 go_enter Try.func12, Try.ntmps12
 try go_wp2_with (first | ((with_reducible refine gate_dst (N := 1) rfl ?_); refine box_event ?hg (N := 1) ?hd (cs := #[.int .i64 a0_0, .slice A0_1 l0_1.length c0_1, .slice A0_2 l0_2.length c0_2]) (t := 31) ?hr ?_; (case hd => rfl); (case hg => rfl); (case hr => first | (go_simp; done) | (go_simp; rfl)); intro gb165 hg w4 hbox hb; have n0_ := Aside0.mk (below_step (by repeat (first | (with_reducible first | exact HB.out | apply below_alloc | apply pw_below_drewN | apply below_drew1) | exact HB.out)) hb); have n1_ := Aside0.mk (hbox); have n2_ := Aside0.mk ((by rw [hg]; exact (below_size (by repeat (first | (with_reducible first | exact HB.out | apply below_alloc | apply pw_below_drewN | apply below_drew1) | exact HB.out))) : w.heap.size ≤ gb165)); have n3_ := Aside0.mk ((by rw [hg]; exact (below_size (by repeat (first | (with_reducible first | exact HB.out | apply below_alloc | apply pw_below_drewN | apply below_drew1) | exact HB.out))) : w.heap.size ≤ gb165)); clear HB; have HB := n0_; have BK165 := n1_; have GW165 := n2_; have GE165 := n3_; clear n0_ n1_ n2_ n3_; clear hb hbox hg) | ((with_reducible refine gate_dst (N := 2) rfl ?_); refine box_event ?hg (N := 2) ?hd (cs := #[.int .i64 0, .slice none 0 0]) (t := 24) ?hr ?_; (case hd => rfl); (case hg => rfl); (case hr => first | (go_simp; done) | (go_simp; rfl)); intro gb166 hg w5 hbox hb; have n0_ := Aside0.mk (blk_below (g := gb165) (o := .cells #[.int .i64 a0_0, .slice A0_1 l0_1.length c0_1, .slice A0_2 l0_2.length c0_2] 31 (0, 0)) (by (with_reducible repeat (first | refine blk_drewN ?_ _ | refine blk_drew ?_ | refine blk_alloc ?_ _)); exact BK165.out) hb); have n1_ := Aside0.mk (below_step (by repeat (first | (with_reducible first | exact HB.out | apply below_alloc | apply pw_below_drewN | apply below_drew1 | refine below_set ?_ GE165.out) | exact HB.out)) hb); have n2_ := Aside0.mk (hbox); have n3_ := Aside0.mk ((by rw [hg]; exact (below_size (by repeat (first | (with_reducible first | exact HB.out | apply below_alloc | apply pw_below_drewN | apply below_drew1 | refine below_set ?_ GE165.out) | exact HB.out))) : w.heap.size ≤ gb166)); have n4_ := Aside0.mk ((by rw [hg]; exact (below_size (by repeat (first | (with_reducible first | exact HB.out | apply below_alloc | apply pw_below_drewN | apply below_drew1 | refine below_set ?_ GE165.out) | exact HB.out))) : w.heap.size ≤ gb166)); have n5_ := Aside0.mk ((by rw [hg]; exact Nat.ne_of_lt (blk_lt (g := gb165) (o := .cells #[.int .i64 a0_0, .slice A0_1 l0_1.length c0_1, .slice A0_2 l0_2.length c0_2] 31 (0, 0)) (by (with_reducible repeat (first | refine blk_drewN ?_ _ | refine blk_drew ?_ | refine blk_alloc ?_ _)); exact BK165.out)) : gb165 ≠ gb166)); have n6_ := Aside0.mk ((by rw [hg]; exact Nat.ne_of_gt (blk_lt (g := gb165) (o := .cells #[.int .i64 a0_0, .slice A0_1 l0_1.length c0_1, .slice A0_2 l0_2.length c0_2] 31 (0, 0)) (by (with_reducible repeat (first | refine blk_drewN ?_ _ | refine blk_drew ?_ | refine blk_alloc ?_ _)); exact BK165.out)) : gb166 ≠ gb165)); clear BK165; clear HB; have BK165 := n0_; have HB := n1_; have BK166 := n2_; have GW166 := n3_; have GE166 := n4_; have NB165_166 := n5_; have NB166_165 := n6_; clear n0_ n1_ n2_ n3_ n4_ n5_ n6_; clear hb hbox hg))
 have n0_ := Aside0.mk (blk_drew BK165.out)
 have n1_ := Aside0.mk (blk_drew BK166.out)
 have n2_ := Aside0.mk (below_drew1 HB.out)
 clear BK165
 clear BK166
 clear HB
 have BK165 := n0_
 have BK166 := n1_
 have HB := n2_
 clear n0_ n1_ n2_
 refine start_ (n := 8) (S := fun w' => w'.cell? ⟨gb165, 0, none⟩ = some (.int .i64 a0_0) ∧ w'.cell? ⟨gb165, 1, none⟩ = some (.slice A0_1 l0_1.length c0_1) ∧ w'.cell? ⟨gb165, 2, none⟩ = some (.slice A0_2 l0_2.length c0_2)) (ds := []) #[false, false, false, false, false, false, false, false] (by kernel_rfl) rfl rfl ⟨(blk_cell BK165.out 0).trans rfl, (blk_cell BK165.out 1).trans rfl, (blk_cell BK165.out 2).trans rfl⟩ (fun hHeld => ?_); refine with_tabW tangramlaw21_copied.tab1 tangramlaw21_copied.bits1 (fun HT_ HW_ => ?_)
 generalize w5.drew = w6 at BK165 BK166 HB hHeld ⊢
 refine pure_ (i := 0) (N := some 4) (v := ?_) (a' := ?_) #[true, false, false, false, false, false, false, false] rfl rfl (any_of HT_.out (by kernel_rfl)) (fun _ _ _ h => h) (Or.inl ⟨by rfl, ?_⟩) ?_ ?_
 rotate_left
 ·intro w'
  go_simp
  with_reducible rfl
 rotate_left
 ·simp only [Act.put, List.setIfInBounds_toArray, List.set_cons_zero, List.set_cons_succ, i64_w, i32_w]
  rfl
 refine pure_ (i := 3) (N := some 7) (v := ?_) (a' := ?_) #[true, false, false, true, false, false, false, false] rfl rfl (any_of HT_.out (by kernel_rfl)) (fun _ _ _ h => h) (Or.inl ⟨by rfl, ?_⟩) ?_ ?_
 rotate_left
 ·intro w'
  go_simp
  with_reducible rfl
 rotate_left
 ·simp only [Act.put, List.setIfInBounds_toArray, List.set_cons_zero, List.set_cons_succ, i64_w, i32_w]
  rfl
 refine take_ (i := 1) (N := some 5) (v := ?_) (a' := ?_) #[true, true, false, true, false, false, false, false] rfl rfl (take_ofW HT_.out HW_.out (by kernel_rfl)) (fun _ _ _ h => h) (Or.inl ⟨by rfl, ?_⟩) hHeld ?_ ?_
 rotate_left
 ·rintro w' ⟨s0, s1, s2⟩
  go_simp
  with_reducible rfl
 rotate_left
 ·simp only [Act.put, List.setIfInBounds_toArray, List.set_cons_zero, List.set_cons_succ, i64_w, i32_w]
  rfl
 refine take_ (i := 4) (N := some 8) (v := ?_) (a' := ?_) #[true, true, false, true, true, false, false, false] rfl rfl (take_ofW HT_.out HW_.out (by kernel_rfl)) (fun _ _ _ h => h) (Or.inl ⟨by rfl, ?_⟩) hHeld ?_ ?_
 rotate_left
 ·rintro w' ⟨s0, s1, s2⟩
  go_simp
  with_reducible rfl
 rotate_left
 ·simp only [Act.put, List.setIfInBounds_toArray, List.set_cons_zero, List.set_cons_succ, i64_w, i32_w]
  rfl
 refine one_ (i := 2) (N := some 6) #[true, true, true, true, true, false, false, false] rfl rfl (one_of HT_.out (by kernel_rfl)) (by decide) (fun K hK => ?_)
 refine goes_ Try.func30 (by kernel_rfl) rfl #[.agg #[.int .i64 a0_0, .slice A0_1 l0_1.length c0_1]] (by rfl) rfl rfl (by (try simp only [List.map_toArray, List.map_cons, List.map_nil]); first | done | rfl | (simp only [List.length_drop, List.length_take]; rfl)) ?_
 with_reducible refine (tangramref03_Copy.calls k a0_0 _ _ l0_1 t167 t168 _ ?side1 ?side2 A2.out).mono ?_
 (case side1 => repeat (first | exact (Kd.C_below HR0_1.out HB.out) | (with_reducible refine Kd.C_alloc ?_ _) | (with_reducible refine Kd.C_drewN ?_ _) | (with_reducible refine Kd.C_drew ?_)))
 (case side2 => exact HC0_1.out)
 rintro e w7 ⟨v169, rfl, ho0, hb⟩
 refine ⟨_, rfl, ?_⟩
 have n0_ := Aside0.mk (Kd.R_lower ho0 (below_size (by repeat (first | (with_reducible first | exact HB.out | apply below_alloc | apply pw_below_drewN | apply below_drew1 | refine below_set ?_ GE165.out | refine below_set ?_ GE166.out) | exact HB.out))))
 have n1_ := Aside0.mk (blk_below (g := gb165) (o := .cells #[.int .i64 a0_0, .slice A0_1 l0_1.length c0_1, .slice A0_2 l0_2.length c0_2] 31 (0, 0)) (by (with_reducible repeat (first | refine blk_drewN ?_ _ | refine blk_drew ?_ | refine blk_alloc ?_ _)); exact BK165.out) hb)
 have n2_ := Aside0.mk (blk_below (g := gb166) (o := .cells #[.int .i64 0, .slice none 0 0] 24 (0, 0)) (by (with_reducible repeat (first | refine blk_drewN ?_ _ | refine blk_drew ?_ | refine blk_alloc ?_ _)); exact BK166.out) hb)
 have n3_ := Aside0.mk (below_step (by repeat (first | (with_reducible first | exact HB.out | apply below_alloc | apply pw_below_drewN | apply below_drew1 | refine below_set ?_ GE165.out | refine below_set ?_ GE166.out) | exact HB.out)) hb)
 clear BK165
 clear BK166
 clear HB
 have HO170 := n0_
 have BK165 := n1_
 have BK166 := n2_
 have HB := n3_
 clear n0_ n1_ n2_ n3_
 (try clear hb)
 (try clear hb2)
 (try clear hk)
 (try clear hi)
 (try clear ho0)
 refine hK.out _ _ ⟨(blk_cell BK165.out 0).trans rfl, (blk_cell BK165.out 1).trans rfl, (blk_cell BK165.out 2).trans rfl⟩ (fun hHeld => ?_)
 clear hK K
 refine norm_ (a' := ?_) ?_ ?_
 rotate_left
 ·show Act.put _ (some 6) _ = _
  simp only [Act.put, List.setIfInBounds_toArray, List.set_cons_zero, List.set_cons_succ, i64_w, i32_w]
  rfl
 refine one_ (i := 5) (N := some 9) #[true, true, true, true, true, true, false, false] rfl rfl (one_of HT_.out (by kernel_rfl)) (by decide) (fun K hK => ?_)
 refine goes_ Try.func35 (by kernel_rfl) rfl #[.slice A0_2 l0_2.length c0_2] (by rfl) rfl rfl (by (try simp only [List.map_toArray, List.map_cons, List.map_nil]); first | done | rfl | (simp only [List.length_drop, List.length_take]; rfl)) ?_
 with_reducible refine (tangramref11_Copy.calls k _ _ l0_2 t171 _ ?side1 ?side2 A3.out).mono ?_
 (case side1 => repeat (first | exact (Kd.C_below HR0_2.out HB.out) | (with_reducible refine Kd.C_alloc ?_ _) | (with_reducible refine Kd.C_drewN ?_ _) | (with_reducible refine Kd.C_drew ?_)))
 (case side2 => exact HC0_2.out)
 rintro e w8 ⟨v172, rfl, ho0, hb⟩
 refine ⟨_, rfl, ?_⟩
 have n0_ := Aside0.mk (Kd.R_below (by (with_reducible repeat (first | apply Kd.R_alloc | apply Kd.R_drewN | apply Kd.R_drew)); exact HO170.out) hb)
 have n1_ := Aside0.mk (Kd.S_lower ho0 (below_size (by repeat (first | (with_reducible first | exact HB.out | apply below_alloc | apply pw_below_drewN | apply below_drew1 | refine below_set ?_ GE165.out | refine below_set ?_ GE166.out) | exact HB.out))))
 have n2_ := Aside0.mk (blk_below (g := gb165) (o := .cells #[.int .i64 a0_0, .slice A0_1 l0_1.length c0_1, .slice A0_2 l0_2.length c0_2] 31 (0, 0)) (by (with_reducible repeat (first | refine blk_drewN ?_ _ | refine blk_drew ?_ | refine blk_alloc ?_ _)); exact BK165.out) hb)
 have n3_ := Aside0.mk (blk_below (g := gb166) (o := .cells #[.int .i64 0, .slice none 0 0] 24 (0, 0)) (by (with_reducible repeat (first | refine blk_drewN ?_ _ | refine blk_drew ?_ | refine blk_alloc ?_ _)); exact BK166.out) hb)
 have n4_ := Aside0.mk (below_step (by repeat (first | (with_reducible first | exact HB.out | apply below_alloc | apply pw_below_drewN | apply below_drew1 | refine below_set ?_ GE165.out | refine below_set ?_ GE166.out) | exact HB.out)) hb)
 clear HO170
 clear BK165
 clear BK166
 clear HB
 have HO170 := n0_
 have HO173 := n1_
 have BK165 := n2_
 have BK166 := n3_
 have HB := n4_
 clear n0_ n1_ n2_ n3_ n4_
 (try clear hb)
 (try clear hb2)
 (try clear hk)
 (try clear hi)
 (try clear ho0)
 obtain ⟨Ao10, co10, eo10⟩ := Kd.R_slice HO170.out
 (first | subst eo10 | (injection eo10 with f1_ f2_ f3_; have f4_ := f1_.symm; have f5_ := f3_.symm; clear f1_ f2_ f3_; subst f4_; subst f5_))
 refine hK.out _ _ ⟨(blk_cell BK165.out 0).trans rfl, (blk_cell BK165.out 1).trans rfl, (blk_cell BK165.out 2).trans rfl⟩ (fun hHeld => ?_)
 clear hK K
 refine norm_ (a' := ?_) ?_ ?_
 rotate_left
 ·show Act.put _ (some 9) _ = _
  simp only [Act.put, List.setIfInBounds_toArray, List.set_cons_zero, List.set_cons_succ, i64_w, i32_w]
  rfl
 refine one_ (i := 6) (N := none) #[true, true, true, true, true, true, true, false] rfl rfl (one_of HT_.out (by kernel_rfl)) (by decide) (fun K hK => ?_)
 have hs9 : w8.cell? ⟨gb166, 0, none⟩ = some (.int .i64 0) := (blk_cell BK166.out 0).trans rfl
 have hfs9 := blk_frozen BK166.out 0
 have hns9_0 := NB165_166.out
 have hms9_0 := NB166_165.out
 have hs11 : w8.cell? ⟨gb166, 1, none⟩ = some (.slice none 0 0) := (blk_cell BK166.out 1).trans rfl
 have hfs11 := blk_frozen BK166.out 1
 have hns11_0 := NB165_166.out
 have hms11_0 := NB166_165.out
 refine skip_ (w1 := ?_) (by rfl) rfl ?_ ?_
 rotate_left
 ·go_simp
  rfl
 refine hK.out _ _ ⟨((cell_far (p := ⟨gb166, _, none⟩) NB165_166.out _).trans (((cell_far (p := ⟨gb166, _, none⟩) NB165_166.out _).trans (hHeld.1)))), ((cell_far (p := ⟨gb166, _, none⟩) NB165_166.out _).trans (((cell_far (p := ⟨gb166, _, none⟩) NB165_166.out _).trans (hHeld.2.1)))), ((cell_far (p := ⟨gb166, _, none⟩) NB165_166.out _).trans (((cell_far (p := ⟨gb166, _, none⟩) NB165_166.out _).trans (hHeld.2.2))))⟩ (fun hHeld => ?_)
 clear hK K
 refine pure_ (i := 7) (N := some 3) (v := ?_) (a' := ?_) #[true, true, true, true, true, true, true, true] rfl rfl (any_of HT_.out (by kernel_rfl)) (fun _ _ _ h => h) (Or.inl ⟨by rfl, ?_⟩) ?_ ?_
 rotate_left
 ·intro w'
  go_simp
  with_reducible rfl
 rotate_left
 ·simp only [Act.put, List.setIfInBounds_toArray, List.set_cons_zero, List.set_cons_succ, i64_w, i32_w]
  rfl
 refine done_ (done_of HT_.out (by kernel_rfl)) ?_
 try go_wp2
 refine bodyPost_ret (results_ct rfl _ _ gb166 24 #[.int .i64 t167, .slice Ao10 t168.length co10] (0, 0) _ rfl (by (with_reducible repeat (first | refine blk_drewN ?_ _ | refine blk_drew ?_ | refine blk_alloc ?_ _)); refine blk_put (cs := #[.int .i64 t167, .slice none 0 0]) ?_ 1 _ rfl; (with_reducible repeat (first | refine blk_drewN ?_ _ | refine blk_drew ?_ | refine blk_alloc ?_ _)); refine blk_put (cs := #[.int .i64 0, .slice none 0 0]) ?_ 0 _ rfl; (with_reducible repeat (first | refine blk_drewN ?_ _ | refine blk_drew ?_ | refine blk_alloc ?_ _)); exact BK166.out) Try.underlying24 rfl (by kernel_rfl)) rfl ?_
 exact ⟨_, _, by first | rfl | (simp [errW_none, errW_some] <;> rfl) | (simp [*, errW_none, errW_some] <;> rfl), by (with_reducible repeat (first | apply Kd.R_alloc | apply Kd.R_drewN | apply Kd.R_drew)); exact Kd.R_mono (Kd.R_far (p := ⟨gb166, 1, none⟩) (Kd.R_far (p := ⟨gb166, 0, none⟩) (Kd.R_types HO170.out BK166.out (by decide)) (fun _ hk => hk.2) (.int .i64 t167)) (fun _ hk => hk.2) (.slice Ao10 t168.length co10)) (fun _ hk => trivial), by (with_reducible repeat (first | apply Kd.S_alloc | apply Kd.S_drewN | apply Kd.S_drew)); exact Kd.S_mono (Kd.S_far (p := ⟨gb166, 1, none⟩) (Kd.S_far (p := ⟨gb166, 0, none⟩) (Kd.S_types HO173.out BK166.out (by decide)) (fun _ hk => hk.2) (.int .i64 t167)) (fun _ hk => hk.2) (.slice Ao10 t168.length co10)) (fun _ hk => trivial), by repeat (first | (with_reducible first | exact HB.out | apply below_alloc | apply pw_below_drewN | apply below_drew1 | refine below_set ?_ GE165.out | refine below_set ?_ GE166.out) | exact HB.out)⟩
end Go.Proofs.Yteeihjpnhjnknaa.GAll
namespace Go.Proofs.Yteeihjpnhjnknaa.Rot
open Go.RowKit Go.Proofs.YteeihjpnhjnknaaW.PrintWords Go.Proofs.YteeihjpnhjnknaaW.PrintLast Go.Proofs.YteeihjpnhjnknaaW.PrintMore Go.Proofs.Yteeihjpnhjnknaa.GAll Go.Proofs.Yteeihjpnhjnknaa.Mem Go.Proofs.Yteeihjpnhjnknaa.Seen
set_option linter.unusedVariables false
set_option linter.unusedSimpArgs false
theorem w1 {i : Nat} (h : i < 9223372036854775807) : wrap64 ((i : Int) + 1) = ((i + 1 : Nat) : Int) := by rw [IntWalk.wrap64_in _ (by omega)]; omega
theorem gi_get {l : List Int} {i : Nat} (h : i < l.length) : gi l i = l[i] := by unfold gi; rw [List.getD_eq_getElem?_getD, List.getElem?_eq_getElem h]; rfl
theorem ints_ev {a b : List Int} (hm : a.length ≤ 9000000000000000) : Ev (fun k => tangramref03_SameInts.f k a b) (decide (a = b)) := by
 by_cases h : a.length = b.length
 ·have loop : ∀ (d i : Nat), i + d = a.length → a.take i = b.take i → Ev (fun k => tangramref03_SameInts.l0 k a b (i : Int)) (decide (a = b)) := by
   intro d
   induction d with
   | zero =>
    intro i hi ht
    rw [List.take_of_length_le (by omega), List.take_of_length_le (by omega)] at ht
    rw [decide_eq_true ht]
    refine Ev.step (f := fun _ => some true) (fun k => ?_) (Ev.now _)
    simp only [tangramref03_SameInts.l0]
    rw [if_neg (by omega)]
   | succ d ih =>
    intro i hi ht
    have hx : i < a.length := by omega
    have hy : i < b.length := by omega
    by_cases e : a[i] = b[i]
    ·refine Ev.step (fun k => ?_) (ih (i + 1) (by omega) (by rw [List.take_succ_eq_append_getElem hx, List.take_succ_eq_append_getElem hy, ht, e]))
     simp only [tangramref03_SameInts.l0]
     rw [if_pos (by omega), if_pos (by omega), if_pos (by omega), gi_rd, gi_rd, gi_get hx, gi_get hy, if_pos e, w1 (by omega)]
    ·rw [decide_eq_false (by rintro rfl; exact e rfl)]
     refine Ev.step (f := fun _ => some false) (fun k => ?_) (Ev.now _)
     simp only [tangramref03_SameInts.l0]
     rw [if_pos (by omega), if_pos (by omega), if_pos (by omega), gi_rd, gi_rd, gi_get hx, gi_get hy, if_neg e]
  have := loop a.length 0 (by omega) rfl
  unfold tangramref03_SameInts.f
  exact Ev.congr (fun k => if_pos (by omega)) this
 ·rw [decide_eq_false (fun e => h (by rw [e]))]
  unfold tangramref03_SameInts.f
  exact Ev.congr (fun k => if_neg (by omega)) (Ev.now _)
theorem ints_same {a : List Int} (hm : a.length ≤ 9000000000000000) : Ev (fun k => tangramref03_SameInts.f k a a) true := by
 have := ints_ev (a := a) (b := a) hm
 rw [decide_eq_true rfl] at this
 exact this
theorem copy3_ev (n : Int) (l : List Ed) (hl : l.length ≤ 8796093022208) : Ev (fun k => tangramref03_Copy.f k n l) (n, l) := by
 have loop : ∀ (d i : Nat), i + d = l.length → Ev (fun k => tangramref03_Copy.l0 k (l.take i) (i : Int) n l) (n, l) := by
  intro d
  induction d with
  | zero =>
   intro i hi
   refine Ev.step (f := fun _ => some (n, l)) (fun k => ?_) (Ev.now _)
   simp only [tangramref03_Copy.l0]
   rw [if_neg (by omega), List.take_of_length_le (by omega)]
  | succ d ih =>
   intro i hi
   have hx : i < l.length := by omega
   refine Ev.step (fun k => ?_) (ih (i + 1) (by omega))
   simp only [tangramref03_Copy.l0]
   have e : PureV.rdE l (i : Nat) = l[i] := by
    show l.getD ((i : Int).toNat) _ = _
    rw [Int.toNat_natCast, List.getD_eq_getElem?_getD, List.getElem?_eq_getElem hx]
    rfl
   rw [if_pos (by omega), if_pos (by omega), if_pos (by rw [List.length_take]; omega), w1 (by omega), List.take_succ_eq_append_getElem hx]
   change tangramref03_Copy.l0 k (l.take i ++ [⟨(PureV.rdE l (i : Nat)).f0, (PureV.rdE l (i : Nat)).f1⟩]) _ n l = _
   rw [e]
 exact loop l.length 0 (by omega)
theorem copy11_ev (r : List (List Int)) (hs : Small r) : Ev (fun k => tangramref11_Copy.f k r) r := by
 have h1 := hs.1
 have loop : ∀ (d i : Nat), i + d = r.length → Ev (fun k => tangramref11_Copy.l0 k r (r.take i) (i : Int)) r := by
  intro d
  induction d with
  | zero =>
   intro i hi
   refine Ev.step (f := fun _ => some r) (fun k => ?_) (Ev.now _)
   simp only [tangramref11_Copy.l0]
   rw [if_neg (by omega), List.take_of_length_le (by omega)]
  | succ d ih =>
   intro i hi
   have hx : i < r.length := by omega
   have h2 := hs.2 _ (List.getElem_mem hx)
   refine Ev.step (fun k => ?_) (ih (i + 1) (by omega))
   simp only [tangramref11_Copy.l0]
   have e : r.getD ((i : Int).toNat) [] = r[i] := by rw [Int.toNat_natCast, List.getD_eq_getElem?_getD, List.getElem?_eq_getElem hx]; rfl
   rw [if_pos (by omega), Option.bind_some, if_pos (by omega)]
   change (if ([] : List Int).length + (r.getD ((i : Int).toNat) []).length < _ then (if _ then tangramref11_Copy.l0 k r (r.take i ++ [[] ++ r.getD ((i : Int).toNat) []]) _ else none) else none) = _
   rw [e, List.nil_append, if_pos (by simp only [List.length_nil]; omega), if_pos (by rw [List.length_take]; omega), w1 (by omega), List.take_succ_eq_append_getElem hx]
 exact loop r.length 0 (by omega)
theorem copied_ev (n : Int) (l : List Ed) (r : List (List Int)) (hl : l.length ≤ 8796093022208) (hs : Small r) : Ev (fun k => tangramlaw21_copied.f k n l r) (n, l, r) := by
 unfold tangramlaw21_copied.f
 exact Ev.bind (copy3_ev n l hl) (Ev.bind (copy11_ev r hs) (Ev.now _))
end Go.Proofs.Yteeihjpnhjnknaa.Rot
namespace Go.Proofs.Yteeihjpnhjnknaa.GAll
open Go.RowKit Go.Proofs.YteeihjpnhjnknaaW.PrintWords Go.Proofs.YteeihjpnhjnknaaW.PrintLast Go.Proofs.YteeihjpnhjnknaaW.PrintMore
attribute [local go_sem] max2_int min2_int max_two min_two max_three min_three max_four min_four   -- for this text's walks alone
set_option linter.unusedVariables false
set_option linter.unusedSimpArgs false
def canon_less_int.l0 : Nat → List Int → List Int → Int → Int → Option (Bool)
 | 0, _, _, _, _ => none
 | k + 1, x0, x1, x7, x8 => if x8 < x7 then (if x8 ≥ (x1.length : Int) then (some false) else (if 0 ≤ x8 then (if x8 < (x0.length : Int) then (if x8 < (x1.length : Int) then (if (rd x0 x8) = (rd x1 x8) then (canon_less_int.l0 k x0 x1 x7 (wrap64 (x8 + 1))) else (some (decide ((rd x0 x8) < (rd x1 x8))))) else (none)) else (none)) else (none))) else (some (decide ((x0.length : Int) < (x1.length : Int))))
def canon_less_int.f (k : Nat) (l0 : List Int) (l1 : List Int) : Option (Bool) := canon_less_int.l0 k l0 l1 (l0.length : Int) 0
theorem canon_less_int.mono_l : ∀ k, (∀ y0 y1 y2 y3, LeO (canon_less_int.l0 k y0 y1 y2 y3) (canon_less_int.l0 (k + 1) y0 y1 y2 y3))
 | 0 => fun _ _ _ _ r h => by simp [canon_less_int.l0] at h
 | k + 1 => by
  have ih0 := canon_less_int.mono_l k
  ·intro y0 y1 y2 y3
   unfold canon_less_int.l0
   repeat' first
   | (with_reducible exact ih0 _ _ _ _)
   | (with_reducible exact LeO.refl _)
   | (with_reducible exact LeO.none _)
   | (with_reducible refine LeO.ite ?_ ?_)
   | (with_reducible refine LeO.bind ?_ (fun _ => ?_))
   | exact ih0 _ _ _ _
   | exact LeO.none _
   | refine LeO.ite ?_ ?_
   | refine LeO.bind ?_ (fun _ => ?_)
theorem canon_less_int.mono : ∀ a0 a1 k, LeO (canon_less_int.f k a0 a1) (canon_less_int.f (k + 1) a0 a1) := by
 intro a0 a1 k
 have ih0 := canon_less_int.mono_l k
 unfold canon_less_int.f
 repeat' first
   | (with_reducible exact ih0 _ _ _ _)
   | (with_reducible exact LeO.refl _)
   | (with_reducible exact LeO.none _)
   | (with_reducible refine LeO.ite ?_ ?_)
   | (with_reducible refine LeO.bind ?_ (fun _ => ?_))
   | exact ih0 _ _ _ _
   | exact LeO.none _
   | refine LeO.ite ?_ ?_
   | refine LeO.bind ?_ (fun _ => ?_)
set_option maxHeartbeats 8000000 in
set_option maxRecDepth 100000 in
theorem canon_less_int.calls (k : Nat) (A0 : Option Addr) (c0 : Nat) (l0 : List Int) (A1 : Option Addr) (c1 : Nat) (l1 : List Int) (r : Bool) (w : World) (hr0 : Kd.C (Kd.int .i64) w A0 l0.length l0) (hc0 : l0.length ≤ c0) (hr1 : Kd.C (Kd.int .i64) w A1 l1.length l1) (hc1 : l1.length ≤ c1) (h : canon_less_int.f k l0 l1 = some r) :
  Calls Try.prog 42 #[.slice A0 l0.length c0, .slice A1 l1.length c1] w fun e w' => e = .returned (.bool r) ∧ Drawn0 w w' := by
 have HR0 := Aside0.mk hr0
 have HC0 := Aside0.mk hc0
 clear hr0 hc0
 have HR1 := Aside0.mk hr1
 have HC1 := Aside0.mk hc1
 clear hr1 hc1
 have H : (canon_less_int.l0 k l0 l1 (l0.length : Int) 0) = some r := h
 clear h
 have H' := Aside0.mk H
 clear H
 go_enter Try.func42, Try.ntmps42
 go_wp2
 repeat (go_quiet (fail); try go_wp2)
 go_loopg [8] k (fun kq v8 w' => ∃ (x8_1 : Int), v8 = .int .i64 x8_1 ∧ Aside0 (canon_less_int.l0 kq l0 l1 (l0.length : Int) x8_1 = some r) ∧ Aside0 (kq ≤ k) ∧ Drawn0 w w')
 case atStart => exact ⟨(0), (by first | rfl | (simp; done) | (simp [*]; done)), H', ⟨Nat.le_refl _⟩, by repeat (first | exact Drawn0.refl _ | apply Drawn0.step)⟩
 case round =>
  clear H'
  try clear c1
  try clear p2
  obtain ⟨x8_1, rfl, HA, HK1, ⟨m1, rfl⟩⟩ := hrel
  cases gk with
  | zero => exact absurd HA.out (by simp [canon_less_int.l0])
  | succ k1 =>
   have H := HA.out
   clear HA
   simp only [canon_less_int.l0] at H
   by_cases c3 : x8_1 < (l0.length : Int)
   ·rw [if_pos c3] at H
    have c3b0 : decide (x8_1 < (l0.length : Int)) = true := decide_eq_true c3
    clear c3
    by_cases c4 : x8_1 ≥ (l1.length : Int)
    ·rw [if_pos c4] at H
     have c4b0 : decide ((l1.length : Int) ≤ x8_1) = true := decide_eq_true c4
     clear c4
     obtain rfl := Option.some.inj H
     go_wp2
     repeat (go_quiet (fail); try go_wp2)
     go_ret
     exact ⟨by first | rfl | (simp; done) | (simp [*]; done), by repeat (first | exact Drawn0.refl _ | apply Drawn0.step)⟩
    ·rw [if_neg c4] at H
     have c4b0 : decide ((l1.length : Int) ≤ x8_1) = false := decide_eq_false c4
     clear c4
     by_cases c5 : 0 ≤ x8_1
     ·rw [if_pos c5] at H
      have c5b0 : decide (0 ≤ x8_1) = true := decide_eq_true c5
      clear c5
      by_cases c6 : x8_1 < (l0.length : Int)
      ·rw [if_pos c6] at H
       have c6b0 : decide (x8_1 < (l0.length : Int)) = true := decide_eq_true c6
       clear c6
       by_cases c7 : x8_1 < (l1.length : Int)
       ·rw [if_pos c7] at H
        have c7b0 : decide (x8_1 < (l1.length : Int)) = true := decide_eq_true c7
        clear c7
        by_cases c8 : (rd l0 x8_1) = (rd l1 x8_1)
        ·rw [if_pos c8] at H
         have c8b0 : ((rd l0 x8_1) == (rd l1 x8_1)) = true := beq_iff_eq.mpr c8
         have c8b1 : ((rd l0 x8_1) != (rd l1 x8_1)) = false := bne_eq_false_iff_eq.mpr c8
         clear c8
         have H' := Aside0.mk H
         clear H
         have p114 : 0 ≤ (x8_1 : Int) := of_decide_eq_true (by first | (with_reducible assumption) | assumption)
         have q114 : x8_1 < (l0.length : Int) := of_decide_eq_true (by first | (with_reducible assumption) | assumption)
         obtain ⟨ad114, e114, hx114_0⟩ := Kd.at_int HR0.out x8_1 p114 q114
         cases e114
         replace p114 := eq_true p114
         replace q114 := eq_true q114
         have p115 : 0 ≤ (x8_1 : Int) := of_decide_eq_true (by first | (with_reducible assumption) | assumption)
         have q115 : x8_1 < (l1.length : Int) := of_decide_eq_true (by first | (with_reducible assumption) | assumption)
         obtain ⟨ad115, e115, hx115_0⟩ := Kd.at_int HR1.out x8_1 p115 q115
         cases e115
         replace p115 := eq_true p115
         replace q115 := eq_true q115
         go_wp2
         repeat (go_quiet (fail); try go_wp2)
         go_roundg k1
         case measure => have := HK1.out; omega
         case rel => exact ⟨(wrap64 (x8_1 + 1)), (by first | rfl | (simp; done) | (simp [*]; done)), H', ⟨by have := HK1.out; omega⟩, by repeat (first | exact Drawn0.refl _ | apply Drawn0.step)⟩
        ·rw [if_neg c8] at H
         have c8b0 : ((rd l0 x8_1) == (rd l1 x8_1)) = false := beq_eq_false_iff_ne.mpr c8
         have c8b1 : ((rd l0 x8_1) != (rd l1 x8_1)) = true := bne_iff_ne.mpr c8
         obtain rfl := Option.some.inj H
         have p114 : 0 ≤ (x8_1 : Int) := of_decide_eq_true (by first | (with_reducible assumption) | assumption)
         have q114 : x8_1 < (l0.length : Int) := of_decide_eq_true (by first | (with_reducible assumption) | assumption)
         obtain ⟨ad114, e114, hx114_0⟩ := Kd.at_int HR0.out x8_1 p114 q114
         cases e114
         replace p114 := eq_true p114
         replace q114 := eq_true q114
         have p115 : 0 ≤ (x8_1 : Int) := of_decide_eq_true (by first | (with_reducible assumption) | assumption)
         have q115 : x8_1 < (l1.length : Int) := of_decide_eq_true (by first | (with_reducible assumption) | assumption)
         obtain ⟨ad115, e115, hx115_0⟩ := Kd.at_int HR1.out x8_1 p115 q115
         cases e115
         replace p115 := eq_true p115
         replace q115 := eq_true q115
         have p116 : 0 ≤ (x8_1 : Int) := of_decide_eq_true (by first | (with_reducible assumption) | assumption)
         have q116 : x8_1 < (l0.length : Int) := of_decide_eq_true (by first | (with_reducible assumption) | assumption)
         obtain ⟨ad116, e116, hx116_0⟩ := Kd.at_int HR0.out x8_1 p116 q116
         obtain rfl : ad114 = ad116 := (by injection e116)
         replace p116 := eq_true p116
         replace q116 := eq_true q116
         have p117 : 0 ≤ (x8_1 : Int) := of_decide_eq_true (by first | (with_reducible assumption) | assumption)
         have q117 : x8_1 < (l1.length : Int) := of_decide_eq_true (by first | (with_reducible assumption) | assumption)
         obtain ⟨ad117, e117, hx117_0⟩ := Kd.at_int HR1.out x8_1 p117 q117
         obtain rfl : ad115 = ad117 := (by injection e117)
         replace p117 := eq_true p117
         replace q117 := eq_true q117
         go_wp2
         repeat (go_quiet (fail); try go_wp2)
         go_ret
         exact ⟨by first | rfl | (simp; done) | (simp [*]; done), by repeat (first | exact Drawn0.refl _ | apply Drawn0.step)⟩
       ·rw [if_neg c7] at H
        exact absurd H (by simp)
      ·rw [if_neg c6] at H
       exact absurd H (by simp)
     ·rw [if_neg c5] at H
      exact absurd H (by simp)
   ·rw [if_neg c3] at H
    have c3b0 : decide (x8_1 < (l0.length : Int)) = false := decide_eq_false c3
    clear c3
    obtain rfl := Option.some.inj H
    go_wp2
    repeat (go_quiet (fail); try go_wp2)
    go_ret
    exact ⟨by first | rfl | (simp; done) | (simp [*]; done), by repeat (first | exact Drawn0.refl _ | apply Drawn0.step)⟩
end Go.Proofs.Yteeihjpnhjnknaa.GAll
namespace Go.Proofs.Yteeihjpnhjnknaa.GAll
open Go.RowKit Go.Proofs.YteeihjpnhjnknaaW.PrintWords Go.Proofs.YteeihjpnhjnknaaW.PrintLast Go.Proofs.YteeihjpnhjnknaaW.PrintMore
attribute [local go_sem] max2_int min2_int max_two min_two max_three min_three max_four min_four   -- for this text's walks alone
set_option linter.unusedVariables false
set_option linter.unusedSimpArgs false
mutual
def tangramref21_Less.l0 : Nat → List Int → List Int → Int → Option (Bool)
 | 0, _, _, _ => none
 | k + 1, x0, x1, x5 => if x5 < (x0.length : Int) then (tangramref21_Less.j1 k x0 x1 x5 (decide (x5 < (x1.length : Int)))) else (tangramref21_Less.j1 k x0 x1 x5 false)
def tangramref21_Less.j1 : Nat → List Int → List Int → Int → Bool → Option (Bool)
 | 0, _, _, _, _ => none
 | k + 1, x0, x1, x5, x15 => if x15 = true then (if 0 ≤ x5 then (if x5 < (x0.length : Int) then (if x5 < (x1.length : Int) then (if (rd x0 x5) = (rd x1 x5) then (tangramref21_Less.l0 k x0 x1 (wrap64 (x5 + 1))) else (some (decide ((rd x0 x5) < (rd x1 x5))))) else (none)) else (none)) else (none)) else (some (decide ((x0.length : Int) < (x1.length : Int))))
end
def tangramref21_Less.f (k : Nat) (l0 : List Int) (l1 : List Int) : Option (Bool) := tangramref21_Less.l0 k l0 l1 0
theorem tangramref21_Less.mono_l : ∀ k, (∀ y0 y1 y2, LeO (tangramref21_Less.l0 k y0 y1 y2) (tangramref21_Less.l0 (k + 1) y0 y1 y2)) ∧ (∀ y0 y1 y2 y3, LeO (tangramref21_Less.j1 k y0 y1 y2 y3) (tangramref21_Less.j1 (k + 1) y0 y1 y2 y3))
 | 0 => ⟨fun _ _ _ r h => by simp [tangramref21_Less.l0] at h, fun _ _ _ _ r h => by simp [tangramref21_Less.j1] at h⟩
 | k + 1 => by
  obtain ⟨ih0, ih1⟩ := tangramref21_Less.mono_l k
  refine ⟨?_, ?_⟩
  ·intro y0 y1 y2
   unfold tangramref21_Less.l0
   repeat' first
   | (with_reducible exact ih0 _ _ _)
   | (with_reducible exact ih1 _ _ _ _)
   | (with_reducible exact LeO.refl _)
   | (with_reducible exact LeO.none _)
   | (with_reducible refine LeO.ite ?_ ?_)
   | (with_reducible refine LeO.bind ?_ (fun _ => ?_))
   | exact ih0 _ _ _
   | exact ih1 _ _ _ _
   | exact LeO.none _
   | refine LeO.ite ?_ ?_
   | refine LeO.bind ?_ (fun _ => ?_)
  ·intro y0 y1 y2 y3
   unfold tangramref21_Less.j1
   repeat' first
   | (with_reducible exact ih0 _ _ _)
   | (with_reducible exact ih1 _ _ _ _)
   | (with_reducible exact LeO.refl _)
   | (with_reducible exact LeO.none _)
   | (with_reducible refine LeO.ite ?_ ?_)
   | (with_reducible refine LeO.bind ?_ (fun _ => ?_))
   | exact ih0 _ _ _
   | exact ih1 _ _ _ _
   | exact LeO.none _
   | refine LeO.ite ?_ ?_
   | refine LeO.bind ?_ (fun _ => ?_)
theorem tangramref21_Less.mono : ∀ a0 a1 k, LeO (tangramref21_Less.f k a0 a1) (tangramref21_Less.f (k + 1) a0 a1) := by
 intro a0 a1 k
 obtain ⟨ih0, ih1⟩ := tangramref21_Less.mono_l k
 unfold tangramref21_Less.f
 repeat' first
   | (with_reducible exact ih0 _ _ _)
   | (with_reducible exact ih1 _ _ _ _)
   | (with_reducible exact LeO.refl _)
   | (with_reducible exact LeO.none _)
   | (with_reducible refine LeO.ite ?_ ?_)
   | (with_reducible refine LeO.bind ?_ (fun _ => ?_))
   | exact ih0 _ _ _
   | exact ih1 _ _ _ _
   | exact LeO.none _
   | refine LeO.ite ?_ ?_
   | refine LeO.bind ?_ (fun _ => ?_)
end Go.Proofs.Yteeihjpnhjnknaa.GAll
namespace Go.Proofs.Yteeihjpnhjnknaa.Rot
open Go.RowKit Go.Proofs.YteeihjpnhjnknaaW.PrintWords Go.Proofs.YteeihjpnhjnknaaW.PrintLast Go.Proofs.YteeihjpnhjnknaaW.PrintMore Go.Proofs.Yteeihjpnhjnknaa.GAll Go.Proofs.Yteeihjpnhjnknaa.Mem Go.Proofs.Yteeihjpnhjnknaa.Seen
set_option linter.unusedVariables false
set_option linter.unusedSimpArgs false
def ltB : List Int → List Int → Bool
 | [], [] => false
 | [], _ :: _ => true
 | _ :: _, [] => false
 | a :: x, b :: y => if a = b then ltB x y else decide (a < b)
theorem ltB_self : ∀ x, ltB x x = false
 | [] => rfl
 | a :: x => by unfold ltB; rw [if_pos rfl]; exact ltB_self x
theorem ltB_eq : ∀ x y, ltB x y = false → ltB y x = false → x = y
 | [], [], _, _ => rfl
 | [], _ :: _, h, _ => by simp [ltB] at h
 | _ :: _, [], _, h => by simp [ltB] at h
 | a :: x, b :: y, h1, h2 => by
  unfold ltB at h1 h2
  by_cases e : a = b
  ·rw [if_pos e] at h1
   rw [if_pos e.symm] at h2
   rw [e, ltB_eq x y h1 h2]
  ·rw [if_neg e] at h1
   rw [if_neg (fun q => e q.symm)] at h2
   have := of_decide_eq_false h1
   have := of_decide_eq_false h2
   omega
theorem ltB_trans : ∀ x y z, ltB x y = true → ltB y z = true → ltB x z = true
 | [], _, [], h1, h2 => by cases ‹List Int› <;> simp [ltB] at h1 h2
 | [], _, _ :: _, _, _ => rfl
 | _ :: _, [], _, h, _ => by simp [ltB] at h
 | _ :: _, _ :: _, [], _, h => by simp [ltB] at h
 | a :: x, b :: y, c :: z, h1, h2 => by
  unfold ltB at h1 h2 ⊢
  by_cases e1 : a = b
  ·subst e1
   rw [if_pos rfl] at h1
   by_cases e2 : a = c
   ·rw [if_pos e2] at h2 ⊢; exact ltB_trans x y z h1 h2
   ·rw [if_neg e2] at h2 ⊢; exact h2
  ·rw [if_neg e1] at h1
   have := of_decide_eq_true h1
   by_cases e2 : b = c
   ·subst e2
    rw [if_neg e1]; exact h1
   ·rw [if_neg e2] at h2
    have := of_decide_eq_true h2
    rw [if_neg (by omega)]
    exact decide_eq_true (by omega)
theorem ltB_nil (b : List Int) : ltB [] b = decide (0 < b.length) := by
 cases b
 ·rfl
 ·simp [ltB]
theorem less_ev {a b : List Int} (ha : a.length ≤ 9000000000000000) : Ev (fun k => canon_less_int.f k a b) (ltB a b) := by
 have loop : ∀ (d i : Nat), i + d = a.length → i ≤ b.length → Ev (fun k => canon_less_int.l0 k a b (a.length : Int) (i : Int)) (ltB (a.drop i) (b.drop i)) := by
  intro d
  induction d with
  | zero =>
   intro i hi hb
   rw [List.drop_of_length_le (show a.length ≤ i by omega), ltB_nil, List.length_drop]
   refine Ev.step (f := fun _ => some (decide (0 < b.length - i))) (fun k => ?_) (Ev.now _)
   simp only [canon_less_int.l0]
   rw [if_neg (by omega)]
   congr 1
   rw [decide_eq_decide]
   omega
  | succ d ih =>
   intro i hi hb
   have hx : i < a.length := by omega
   by_cases hy : i < b.length
   ·rw [List.drop_eq_getElem_cons hx, List.drop_eq_getElem_cons hy]
    unfold ltB
    by_cases e : a[i] = b[i]
    ·rw [if_pos e]
     refine Ev.step (fun k => ?_) (ih (i + 1) (by omega) (by omega))
     simp only [canon_less_int.l0]
     rw [if_pos (by omega), if_neg (by omega), if_pos (by omega), if_pos (by omega), if_pos (by omega), gi_rd, gi_rd, gi_get hx, gi_get hy, if_pos e, w1 (by omega)]
    ·rw [if_neg e]
     refine Ev.step (f := fun _ => some (decide (a[i] < b[i]))) (fun k => ?_) (Ev.now _)
     simp only [canon_less_int.l0]
     rw [if_pos (by omega), if_neg (by omega), if_pos (by omega), if_pos (by omega), if_pos (by omega), gi_rd, gi_rd, gi_get hx, gi_get hy, if_neg e]
   ·rw [List.drop_eq_getElem_cons hx, List.drop_of_length_le (show b.length ≤ i by omega)]
    refine Ev.step (f := fun _ => some false) (fun k => ?_) (Ev.now _)
    simp only [canon_less_int.l0]
    rw [if_pos (by omega), if_pos (by omega)]
 exact loop a.length 0 (by omega) (by omega)
end Go.Proofs.Yteeihjpnhjnknaa.Rot
namespace Go.Proofs.Yteeihjpnhjnknaa.GAll
open Go.RowKit Go.Proofs.YteeihjpnhjnknaaW.PrintWords Go.Proofs.YteeihjpnhjnknaaW.PrintLast Go.Proofs.YteeihjpnhjnknaaW.PrintMore
attribute [local go_sem] max2_int min2_int max_two min_two max_three min_three max_four min_four   -- for this text's walks alone
set_option linter.unusedVariables false
set_option linter.unusedSimpArgs false
def canon_plane_best.l0 : Nat → List Int → List Int → Int → Int → Int → List Int → List Int → Option (List Int × List Int × Int)
 | 0, _, _, _, _, _, _, _ => none
 | k + 1, x5, x6, x7, x8, x119000, x119001, x119002 => if x8 < (x119001.length : Int) then ((canon_plane_code.f k x119000 x119001 x119002 x8).bind fun bt125 => ((canon_less_int.f k bt125.1 x5).bind fun t131 => (if t131 = true then (canon_plane_best.l0 k bt125.1 bt125.2 1 (wrap64 (x8 + 1)) x119000 x119001 x119002) else ((canon_less_int.f k x5 bt125.1).bind fun t132 => (if t132 = true then (canon_plane_best.l0 k x5 x6 x7 (wrap64 (x8 + 1)) x119000 x119001 x119002) else (canon_plane_best.l0 k x5 x6 (wrap64 (x7 + 1)) (wrap64 (x8 + 1)) x119000 x119001 x119002)))))) else (some (x5, x6, x7))
def canon_plane_best.f (k : Nat) (a0_0 : Int) (l0_1 : List Int) (l0_2 : List Int) : Option (List Int × List Int × Int) := (canon_plane_code.f k a0_0 l0_1 l0_2 0).bind fun bt119 => (canon_plane_best.l0 k bt119.1 bt119.2 1 1 a0_0 l0_1 l0_2)
theorem canon_plane_best.mono_l : ∀ k, (∀ y0 y1 y2 y3 y4 y5 y6, LeO (canon_plane_best.l0 k y0 y1 y2 y3 y4 y5 y6) (canon_plane_best.l0 (k + 1) y0 y1 y2 y3 y4 y5 y6))
 | 0 => fun _ _ _ _ _ _ _ r h => by simp [canon_plane_best.l0] at h
 | k + 1 => by
  have ih0 := canon_plane_best.mono_l k
  ·intro y0 y1 y2 y3 y4 y5 y6
   unfold canon_plane_best.l0
   repeat' first
   | (with_reducible exact ih0 _ _ _ _ _ _ _)
   | (with_reducible exact canon_less_int.mono _ _ _)
   | (with_reducible exact canon_plane_code.mono _ _ _ _ _)
   | (with_reducible exact LeO.refl _)
   | (with_reducible exact LeO.none _)
   | (with_reducible refine LeO.ite ?_ ?_)
   | (with_reducible refine LeO.bind ?_ (fun _ => ?_))
   | exact ih0 _ _ _ _ _ _ _
   | exact canon_less_int.mono _ _ _
   | exact canon_plane_code.mono _ _ _ _ _
   | exact LeO.none _
   | refine LeO.ite ?_ ?_
   | refine LeO.bind ?_ (fun _ => ?_)
theorem canon_plane_best.mono : ∀ a0 a1 a2 k, LeO (canon_plane_best.f k a0 a1 a2) (canon_plane_best.f (k + 1) a0 a1 a2) := by
 intro a0 a1 a2 k
 have ih0 := canon_plane_best.mono_l k
 unfold canon_plane_best.f
 repeat' first
   | (with_reducible exact ih0 _ _ _ _ _ _ _)
   | (with_reducible exact canon_less_int.mono _ _ _)
   | (with_reducible exact canon_plane_code.mono _ _ _ _ _)
   | (with_reducible exact LeO.refl _)
   | (with_reducible exact LeO.none _)
   | (with_reducible refine LeO.ite ?_ ?_)
   | (with_reducible refine LeO.bind ?_ (fun _ => ?_))
   | exact ih0 _ _ _ _ _ _ _
   | exact canon_less_int.mono _ _ _
   | exact canon_plane_code.mono _ _ _ _ _
   | exact LeO.none _
   | refine LeO.ite ?_ ?_
   | refine LeO.bind ?_ (fun _ => ?_)
set_option maxHeartbeats 8000000 in
set_option maxRecDepth 100000 in
theorem canon_plane_best.calls (k : Nat) (a0_0 : Int) (A0_1 : Option Addr) (c0_1 : Nat) (l0_1 : List Int) (A0_2 : Option Addr) (c0_2 : Nat) (l0_2 : List Int) (r1 : List Int) (r2 : List Int) (r3 : Int) (w : World) (hr0_1 : Kd.C (Kd.int .i64) w A0_1 l0_1.length l0_1) (hc0_1 : l0_1.length ≤ c0_1) (hr0_2 : Kd.C (Kd.int .i64) w A0_2 l0_2.length l0_2) (hc0_2 : l0_2.length ≤ c0_2) (h : canon_plane_best.f k a0_0 l0_1 l0_2 = some (r1, r2, r3)) :
  Calls Try.prog 39 #[.agg #[.int .i64 a0_0, .slice A0_1 l0_1.length c0_1, .slice A0_2 l0_2.length c0_2]] w fun e w' => ∃ v0_ v1_ : Value, e = .returned (.tuple #[v0_, v1_, .int .i64 r3]) ∧ Kd.R (Kd.int .i64) 3 w' w.heap.size (fun k_ => some k_ ≠ (v1_ : Value).ownBlock) v0_ r1 ∧ Kd.R (Kd.int .i64) 3 w' w.heap.size (fun k_ => some k_ ≠ (v0_ : Value).ownBlock) v1_ r2 ∧ Below w.heap.size w w' := by
 have hu69 := Try.underlying69
 have HR0_1 := Aside0.mk hr0_1
 have HC0_1 := Aside0.mk hc0_1
 clear hr0_1 hc0_1
 have HR0_2 := Aside0.mk hr0_2
 have HC0_2 := Aside0.mk hc0_2
 clear hr0_2 hc0_2
 have HB := Aside0.mk (Below.refl w.heap.size w)
 have H : ((canon_plane_code.f k a0_0 l0_1 l0_2 0).bind fun bt119 => (canon_plane_best.l0 k bt119.1 bt119.2 1 1 a0_0 l0_1 l0_2)) = some (r1, r2, r3) := h
 clear h
 replace H := Option.bind_eq_some_iff.mp H
 obtain ⟨⟨t119, t122⟩, A20, H⟩ := H
 replace H : (canon_plane_best.l0 k t119 t122 1 1 a0_0 l0_1 l0_2) = some (r1, r2, r3) := H
 have A2 := Aside0.mk A20
 clear A20
 have H' := Aside0.mk H
 clear H
 go_enter Try.func39, Try.ntmps39
 go_wp2_with (first | ((with_reducible refine gate_dst (N := 1) rfl ?_); refine box_event ?hg (N := 1) ?hd (cs := #[.int .i64 a0_0, .slice A0_1 l0_1.length c0_1, .slice A0_2 l0_2.length c0_2]) (t := 69) ?hr ?_; (case hd => rfl); (case hg => rfl); (case hr => first | (go_simp; done) | (go_simp; rfl)); intro gb118 hg w3 hbox hb; have n0_ := Aside0.mk (below_step (by repeat (first | (with_reducible first | exact HB.out | apply below_alloc | apply pw_below_drewN | apply below_drew1) | exact HB.out)) hb); have n1_ := Aside0.mk (hbox); have n2_ := Aside0.mk ((by rw [hg]; exact (below_size (by repeat (first | (with_reducible first | exact HB.out | apply below_alloc | apply pw_below_drewN | apply below_drew1) | exact HB.out))) : w.heap.size ≤ gb118)); have n3_ := Aside0.mk ((by rw [hg]; exact (below_size (by repeat (first | (with_reducible first | exact HB.out | apply below_alloc | apply pw_below_drewN | apply below_drew1) | exact HB.out))) : w.heap.size ≤ gb118)); clear HB; have HB := n0_; have BK118 := n1_; have GW118 := n2_; have GE118 := n3_; clear n0_ n1_ n2_ n3_; clear hb hbox hg; have hcz4_0 : w3.cell? ⟨gb118, 0, none⟩ = some (.int .i64 a0_0) := (blk_cell BK118.out 0).trans rfl; have hcz4_1 : w3.cell? ⟨gb118, 1, none⟩ = some (.slice A0_1 l0_1.length c0_1) := (blk_cell BK118.out 1).trans rfl; have hcz4_2 : w3.cell? ⟨gb118, 2, none⟩ = some (.slice A0_2 l0_2.length c0_2) := (blk_cell BK118.out 2).trans rfl; have hfz4_0 := blk_frozen BK118.out 0; have hfz4_1 := blk_frozen BK118.out 1; have hfz4_2 := blk_frozen BK118.out 2) | ((with_reducible refine gate_callee (f := 37) rfl ?_); refine goesL_ (some 13) rfl rfl Try.func37 (by kernel_rfl) rfl #[.agg #[.int .i64 a0_0, .slice A0_1 l0_1.length c0_1, .slice A0_2 l0_2.length c0_2], .int .i64 0] rfl (by (try simp only [List.map_toArray, List.map_cons, List.map_nil]); first | done | rfl | (simp only [List.length_drop, List.length_take]; rfl)) ?_; (with_reducible refine (canon_plane_code.calls k a0_0 _ _ l0_1 _ _ l0_2 0 t119 t122 _ ?side1 ?side2 ?side3 ?side4 A2.out).mono ?_); (case side1 => repeat (first | exact (Kd.C_below HR0_1.out HB.out) | (with_reducible refine Kd.C_alloc ?_ _) | (with_reducible refine Kd.C_drewN ?_ _) | (with_reducible refine Kd.C_drew ?_))); (case side2 => exact HC0_1.out); (case side3 => repeat (first | exact (Kd.C_below HR0_2.out HB.out) | (with_reducible refine Kd.C_alloc ?_ _) | (with_reducible refine Kd.C_drewN ?_ _) | (with_reducible refine Kd.C_drew ?_))); (case side4 => exact HC0_2.out); rintro e w5 ⟨v120, v123, rfl, ho0, ho1, hb⟩; refine ⟨_, rfl, ?_⟩; have n0_ := Aside0.mk (Kd.R_lower ho0 (below_size (by repeat (first | (with_reducible first | exact HB.out | apply below_alloc | apply pw_below_drewN | apply below_drew1 | refine below_set ?_ GE118.out) | exact HB.out)))); have n1_ := Aside0.mk (Kd.R_lower ho1 (below_size (by repeat (first | (with_reducible first | exact HB.out | apply below_alloc | apply pw_below_drewN | apply below_drew1 | refine below_set ?_ GE118.out) | exact HB.out)))); have n2_ := Aside0.mk (blk_below (g := gb118) (o := .cells #[.int .i64 a0_0, .slice A0_1 l0_1.length c0_1, .slice A0_2 l0_2.length c0_2] 69 (0, 0)) (by (with_reducible repeat (first | refine blk_drewN ?_ _ | refine blk_drew ?_ | refine blk_alloc ?_ _)); exact BK118.out) hb); have n3_ := Aside0.mk (below_step (by repeat (first | (with_reducible first | exact HB.out | apply below_alloc | apply pw_below_drewN | apply below_drew1 | refine below_set ?_ GE118.out) | exact HB.out)) hb); clear BK118; clear HB; have HO121 := n0_; have HO124 := n1_; have BK118 := n2_; have HB := n3_; clear n0_ n1_ n2_ n3_; (try clear hb); (try clear hb2); (try clear hk); (try clear hi); (try clear ho0); (try clear ho1)))
 go_loopg [5, 6, 7, 8] k (fun kq v5 v6 v7 v8 w' => ∃ (x5_1 : List Int) (x6_1 : List Int) (x7_1 : Int) (x8_1 : Int), v7 = .int .i64 x7_1 ∧ v8 = .int .i64 x8_1 ∧ Aside0 (canon_plane_best.l0 kq x5_1 x6_1 x7_1 x8_1 a0_0 l0_1 l0_2 = some (r1, r2, r3)) ∧ Aside0 (kq ≤ k) ∧ Aside0 (Kd.R (Kd.int .i64) 3 w' w.heap.size (fun k_ => some k_ ≠ (v6 : Value).ownBlock) v5 x5_1) ∧ Aside0 (Kd.R (Kd.int .i64) 3 w' w.heap.size (fun k_ => some k_ ≠ (v5 : Value).ownBlock) v6 x6_1) ∧ Aside0 (w'.heap[gb118]? = some (.cells #[.int .i64 a0_0, (.slice A0_1 l0_1.length c0_1), (.slice A0_2 l0_2.length c0_2)] 69 (0, 0))) ∧ Aside0 (Below w.heap.size w w'))
 case atStart => exact ⟨(t119), (t122), (1), (1), (by first | rfl | (simp; done) | (simp [*]; done)), (by first | rfl | (simp; done) | (simp [*]; done)), H', ⟨Nat.le_refl _⟩, ⟨by (with_reducible repeat (first | apply Kd.R_alloc | apply Kd.R_drewN | apply Kd.R_drew)); exact HO121.out⟩, ⟨by (with_reducible repeat (first | apply Kd.R_alloc | apply Kd.R_drewN | apply Kd.R_drew)); exact HO124.out⟩, ⟨by (with_reducible repeat (first | refine blk_drewN ?_ _ | refine blk_drew ?_ | refine blk_alloc ?_ _)); exact BK118.out⟩, ⟨by repeat (first | (with_reducible first | exact HB.out | apply below_alloc | apply pw_below_drewN | apply below_drew1 | refine below_set ?_ GE118.out) | exact HB.out)⟩⟩
 case round =>
  clear H'
  try clear p2
  try clear c3
  try clear hcz4_0
  try clear hcz4_1
  try clear hcz4_2
  try clear hfz4_0
  try clear hfz4_1
  try clear hfz4_2
  obtain ⟨x5_1, x6_1, x7_1, x8_1, rfl, rfl, HA, HK1, HO_5, HO_6, BK118, HB⟩ := hrel
  cases gk with
  | zero => exact absurd HA.out (by simp [canon_plane_best.l0])
  | succ k1 =>
   have H := HA.out
   clear HA
   simp only [canon_plane_best.l0] at H
   by_cases c6 : x8_1 < (l0_1.length : Int)
   ·rw [if_pos c6] at H
    have c6b0 : decide (x8_1 < (l0_1.length : Int)) = true := decide_eq_true c6
    clear c6
    replace H := Option.bind_eq_some_iff.mp H
    obtain ⟨⟨t125, t128⟩, A70, H⟩ := H
    replace H : ((canon_less_int.f k1 t125 x5_1).bind fun t131 => (if t131 = true then (canon_plane_best.l0 k1 t125 t128 1 (wrap64 (x8_1 + 1)) a0_0 l0_1 l0_2) else ((canon_less_int.f k1 x5_1 t125).bind fun t132 => (if t132 = true then (canon_plane_best.l0 k1 x5_1 x6_1 x7_1 (wrap64 (x8_1 + 1)) a0_0 l0_1 l0_2) else (canon_plane_best.l0 k1 x5_1 x6_1 (wrap64 (x7_1 + 1)) (wrap64 (x8_1 + 1)) a0_0 l0_1 l0_2))))) = some (r1, r2, r3) := H
    have A7 := Aside0.mk A70
    clear A70
    replace H := Option.bind_eq_some_iff.mp H
    obtain ⟨t131, A80, H⟩ := H
    replace H : (if t131 = true then (canon_plane_best.l0 k1 t125 t128 1 (wrap64 (x8_1 + 1)) a0_0 l0_1 l0_2) else ((canon_less_int.f k1 x5_1 t125).bind fun t132 => (if t132 = true then (canon_plane_best.l0 k1 x5_1 x6_1 x7_1 (wrap64 (x8_1 + 1)) a0_0 l0_1 l0_2) else (canon_plane_best.l0 k1 x5_1 x6_1 (wrap64 (x7_1 + 1)) (wrap64 (x8_1 + 1)) a0_0 l0_1 l0_2)))) = some (r1, r2, r3) := H
    have A8 := Aside0.mk A80
    clear A80
    by_cases c9 : t131 = true
    ·subst c9
     have H1 : (canon_plane_best.l0 k1 t125 t128 1 (wrap64 (x8_1 + 1)) a0_0 l0_1 l0_2) = some (r1, r2, r3) := by rw [if_pos rfl] at H; exact H
     clear H
     have H := H1
     clear H1
     have H' := Aside0.mk H
     clear H
     have hcz10_0 : wr.cell? ⟨gb118, 0, none⟩ = some (.int .i64 a0_0) := (blk_cell BK118.out 0).trans rfl
     have hcz10_1 : wr.cell? ⟨gb118, 1, none⟩ = some (.slice A0_1 l0_1.length c0_1) := (blk_cell BK118.out 1).trans rfl
     have hcz10_2 : wr.cell? ⟨gb118, 2, none⟩ = some (.slice A0_2 l0_2.length c0_2) := (blk_cell BK118.out 2).trans rfl
     have hfz10_0 := blk_frozen BK118.out 0
     have hfz10_1 := blk_frozen BK118.out 1
     have hfz10_2 := blk_frozen BK118.out 2
     go_wp2_with (first | ((with_reducible refine gate_callee (f := 37) rfl ?_); refine goesL_ (some 26) rfl rfl Try.func37 (by kernel_rfl) rfl #[.agg #[.int .i64 a0_0, .slice A0_1 l0_1.length c0_1, .slice A0_2 l0_2.length c0_2], .int .i64 x8_1] rfl (by (try simp only [List.map_toArray, List.map_cons, List.map_nil]); first | done | rfl | (simp only [List.length_drop, List.length_take]; rfl)) ?_; (with_reducible refine (canon_plane_code.calls k1 a0_0 _ _ l0_1 _ _ l0_2 x8_1 t125 t128 _ ?side1 ?side2 ?side3 ?side4 A7.out).mono ?_); (case side1 => repeat (first | exact (Kd.C_below HR0_1.out HB.out) | (with_reducible refine Kd.C_alloc ?_ _) | (with_reducible refine Kd.C_drewN ?_ _) | (with_reducible refine Kd.C_drew ?_))); (case side2 => exact HC0_1.out); (case side3 => repeat (first | exact (Kd.C_below HR0_2.out HB.out) | (with_reducible refine Kd.C_alloc ?_ _) | (with_reducible refine Kd.C_drewN ?_ _) | (with_reducible refine Kd.C_drew ?_))); (case side4 => exact HC0_2.out); rintro e w11 ⟨v126, v129, rfl, ho0, ho1, hb⟩; refine ⟨_, rfl, ?_⟩; have n0_ := Aside0.mk (Kd.R_mono (Kd.R_told (Kd.R_told (Kd.R_old (by (with_reducible repeat (first | apply Kd.R_alloc | apply Kd.R_drewN | apply Kd.R_drew)); exact HO_5.out) hb) (Kd.R_base ho0)) (Kd.R_base ho1)) (fun _ h_ => h_.1)); have n1_ := Aside0.mk (Kd.R_mono (Kd.R_told (Kd.R_told (Kd.R_old (by (with_reducible repeat (first | apply Kd.R_alloc | apply Kd.R_drewN | apply Kd.R_drew)); exact HO_6.out) hb) (Kd.R_base ho0)) (Kd.R_base ho1)) (fun _ h_ => h_.1)); have n2_ := Aside0.mk (Kd.R_lower (Kd.R_new' (Kd.R_new' ho0 (Kd.R_lt (by (with_reducible repeat (first | apply Kd.R_alloc | apply Kd.R_drewN | apply Kd.R_drew)); exact HO_5.out))) (Kd.R_lt (by (with_reducible repeat (first | apply Kd.R_alloc | apply Kd.R_drewN | apply Kd.R_drew)); exact HO_6.out))) (below_size (by repeat (first | (with_reducible first | exact HB.out | apply below_alloc | apply pw_below_drewN | apply below_drew1 | refine below_set ?_ GE118.out) | exact HB.out)))); have n3_ := Aside0.mk (Kd.R_lower (Kd.R_new' (Kd.R_new' ho1 (Kd.R_lt (by (with_reducible repeat (first | apply Kd.R_alloc | apply Kd.R_drewN | apply Kd.R_drew)); exact HO_5.out))) (Kd.R_lt (by (with_reducible repeat (first | apply Kd.R_alloc | apply Kd.R_drewN | apply Kd.R_drew)); exact HO_6.out))) (below_size (by repeat (first | (with_reducible first | exact HB.out | apply below_alloc | apply pw_below_drewN | apply below_drew1 | refine below_set ?_ GE118.out) | exact HB.out)))); have n4_ := Aside0.mk (blk_below (g := gb118) (o := .cells #[.int .i64 a0_0, .slice A0_1 l0_1.length c0_1, .slice A0_2 l0_2.length c0_2] 69 (0, 0)) (by (with_reducible repeat (first | refine blk_drewN ?_ _ | refine blk_drew ?_ | refine blk_alloc ?_ _)); exact BK118.out) hb); have n5_ := Aside0.mk (below_step (by repeat (first | (with_reducible first | exact HB.out | apply below_alloc | apply pw_below_drewN | apply below_drew1 | refine below_set ?_ GE118.out) | exact HB.out)) hb); clear HO_5; clear HO_6; clear BK118; clear HB; have HO_5 := n0_; have HO_6 := n1_; have HO127 := n2_; have HO130 := n3_; have BK118 := n4_; have HB := n5_; clear n0_ n1_ n2_ n3_ n4_ n5_; (try clear hb); (try clear hb2); (try clear hk); (try clear hi); (try clear ho0); (try clear ho1); obtain ⟨Ao12, co12, eo12⟩ := Kd.R_slice HO127.out; subst eo12; obtain ⟨Ao13, co13, eo13⟩ := Kd.R_slice HO_5.out; subst eo13) | ((with_reducible refine gate_callee (f := 42) rfl ?_); refine goesL_ (some 32) rfl rfl Try.func42 (by kernel_rfl) rfl #[.slice Ao12 t125.length co12, .slice Ao13 x5_1.length co13] rfl (by (try simp only [List.map_toArray, List.map_cons, List.map_nil]); first | done | rfl | (simp only [List.length_drop, List.length_take]; rfl)) ?_; (with_reducible refine (canon_less_int.calls k1 _ _ t125 _ _ x5_1 true _ ?side1 ?side2 ?side3 ?side4 A8.out).mono ?_); (case side1 => repeat (first | exact (Kd.R_reads' HO127.out).2.2 | (with_reducible refine Kd.C_alloc ?_ _) | (with_reducible refine Kd.C_drewN ?_ _) | (with_reducible refine Kd.C_drew ?_))); (case side2 => exact (Kd.R_reads' HO127.out).2.1); (case side3 => repeat (first | exact (Kd.R_reads' HO_5.out).2.2 | (with_reducible refine Kd.C_alloc ?_ _) | (with_reducible refine Kd.C_drewN ?_ _) | (with_reducible refine Kd.C_drew ?_))); (case side4 => exact (Kd.R_reads' HO_5.out).2.1); rintro e w' ⟨rfl, ⟨nd, rfl⟩⟩; refine ⟨_, rfl, ?_⟩))
     go_roundg k1
     case measure => have := HK1.out; omega
     case rel => exact ⟨(t125), (t128), (1), (wrap64 (x8_1 + 1)), (by first | rfl | (simp; done) | (simp [*]; done)), (by first | rfl | (simp; done) | (simp [*]; done)), H', ⟨by have := HK1.out; omega⟩, ⟨by (with_reducible repeat (first | apply Kd.R_alloc | apply Kd.R_drewN | apply Kd.R_drew)); exact Kd.R_mono HO127.out (fun _ hk => hk.1.1)⟩, ⟨by (with_reducible repeat (first | apply Kd.R_alloc | apply Kd.R_drewN | apply Kd.R_drew)); exact Kd.R_mono HO130.out (fun _ hk => hk.1.1)⟩, ⟨by (with_reducible repeat (first | refine blk_drewN ?_ _ | refine blk_drew ?_ | refine blk_alloc ?_ _)); exact BK118.out⟩, ⟨by repeat (first | (with_reducible first | exact HB.out | apply below_alloc | apply pw_below_drewN | apply below_drew1 | refine below_set ?_ GE118.out) | exact HB.out)⟩⟩
    ·replace c9 := Bool.eq_false_iff.mpr c9
     subst c9
     have H1 : ((canon_less_int.f k1 x5_1 t125).bind fun t132 => (if t132 = true then (canon_plane_best.l0 k1 x5_1 x6_1 x7_1 (wrap64 (x8_1 + 1)) a0_0 l0_1 l0_2) else (canon_plane_best.l0 k1 x5_1 x6_1 (wrap64 (x7_1 + 1)) (wrap64 (x8_1 + 1)) a0_0 l0_1 l0_2))) = some (r1, r2, r3) := by rw [if_neg (show ¬ (false = true) by decide)] at H; exact H
     clear H
     have H := H1
     clear H1
     replace H := Option.bind_eq_some_iff.mp H
     obtain ⟨t132, A140, H⟩ := H
     replace H : (if t132 = true then (canon_plane_best.l0 k1 x5_1 x6_1 x7_1 (wrap64 (x8_1 + 1)) a0_0 l0_1 l0_2) else (canon_plane_best.l0 k1 x5_1 x6_1 (wrap64 (x7_1 + 1)) (wrap64 (x8_1 + 1)) a0_0 l0_1 l0_2)) = some (r1, r2, r3) := H
     have A14 := Aside0.mk A140
     clear A140
     by_cases c15 : t132 = true
     ·subst c15
      have H1 : (canon_plane_best.l0 k1 x5_1 x6_1 x7_1 (wrap64 (x8_1 + 1)) a0_0 l0_1 l0_2) = some (r1, r2, r3) := by rw [if_pos rfl] at H; exact H
      clear H
      have H := H1
      clear H1
      have H' := Aside0.mk H
      clear H
      have hcz16_0 : wr.cell? ⟨gb118, 0, none⟩ = some (.int .i64 a0_0) := (blk_cell BK118.out 0).trans rfl
      have hcz16_1 : wr.cell? ⟨gb118, 1, none⟩ = some (.slice A0_1 l0_1.length c0_1) := (blk_cell BK118.out 1).trans rfl
      have hcz16_2 : wr.cell? ⟨gb118, 2, none⟩ = some (.slice A0_2 l0_2.length c0_2) := (blk_cell BK118.out 2).trans rfl
      have hfz16_0 := blk_frozen BK118.out 0
      have hfz16_1 := blk_frozen BK118.out 1
      have hfz16_2 := blk_frozen BK118.out 2
      go_wp2_with (first | ((with_reducible refine gate_callee (f := 37) rfl ?_); refine goesL_ (some 26) rfl rfl Try.func37 (by kernel_rfl) rfl #[.agg #[.int .i64 a0_0, .slice A0_1 l0_1.length c0_1, .slice A0_2 l0_2.length c0_2], .int .i64 x8_1] rfl (by (try simp only [List.map_toArray, List.map_cons, List.map_nil]); first | done | rfl | (simp only [List.length_drop, List.length_take]; rfl)) ?_; (with_reducible refine (canon_plane_code.calls k1 a0_0 _ _ l0_1 _ _ l0_2 x8_1 t125 t128 _ ?side1 ?side2 ?side3 ?side4 A7.out).mono ?_); (case side1 => repeat (first | exact (Kd.C_below HR0_1.out HB.out) | (with_reducible refine Kd.C_alloc ?_ _) | (with_reducible refine Kd.C_drewN ?_ _) | (with_reducible refine Kd.C_drew ?_))); (case side2 => exact HC0_1.out); (case side3 => repeat (first | exact (Kd.C_below HR0_2.out HB.out) | (with_reducible refine Kd.C_alloc ?_ _) | (with_reducible refine Kd.C_drewN ?_ _) | (with_reducible refine Kd.C_drew ?_))); (case side4 => exact HC0_2.out); rintro e w17 ⟨v126, v129, rfl, ho0, ho1, hb⟩; refine ⟨_, rfl, ?_⟩; have n0_ := Aside0.mk (Kd.R_mono (Kd.R_told (Kd.R_told (Kd.R_old (by (with_reducible repeat (first | apply Kd.R_alloc | apply Kd.R_drewN | apply Kd.R_drew)); exact HO_5.out) hb) (Kd.R_base ho0)) (Kd.R_base ho1)) (fun _ h_ => h_.1)); have n1_ := Aside0.mk (Kd.R_mono (Kd.R_told (Kd.R_told (Kd.R_old (by (with_reducible repeat (first | apply Kd.R_alloc | apply Kd.R_drewN | apply Kd.R_drew)); exact HO_6.out) hb) (Kd.R_base ho0)) (Kd.R_base ho1)) (fun _ h_ => h_.1)); have n2_ := Aside0.mk (Kd.R_lower (Kd.R_new' (Kd.R_new' ho0 (Kd.R_lt (by (with_reducible repeat (first | apply Kd.R_alloc | apply Kd.R_drewN | apply Kd.R_drew)); exact HO_5.out))) (Kd.R_lt (by (with_reducible repeat (first | apply Kd.R_alloc | apply Kd.R_drewN | apply Kd.R_drew)); exact HO_6.out))) (below_size (by repeat (first | (with_reducible first | exact HB.out | apply below_alloc | apply pw_below_drewN | apply below_drew1 | refine below_set ?_ GE118.out) | exact HB.out)))); have n3_ := Aside0.mk (Kd.R_lower (Kd.R_new' (Kd.R_new' ho1 (Kd.R_lt (by (with_reducible repeat (first | apply Kd.R_alloc | apply Kd.R_drewN | apply Kd.R_drew)); exact HO_5.out))) (Kd.R_lt (by (with_reducible repeat (first | apply Kd.R_alloc | apply Kd.R_drewN | apply Kd.R_drew)); exact HO_6.out))) (below_size (by repeat (first | (with_reducible first | exact HB.out | apply below_alloc | apply pw_below_drewN | apply below_drew1 | refine below_set ?_ GE118.out) | exact HB.out)))); have n4_ := Aside0.mk (blk_below (g := gb118) (o := .cells #[.int .i64 a0_0, .slice A0_1 l0_1.length c0_1, .slice A0_2 l0_2.length c0_2] 69 (0, 0)) (by (with_reducible repeat (first | refine blk_drewN ?_ _ | refine blk_drew ?_ | refine blk_alloc ?_ _)); exact BK118.out) hb); have n5_ := Aside0.mk (below_step (by repeat (first | (with_reducible first | exact HB.out | apply below_alloc | apply pw_below_drewN | apply below_drew1 | refine below_set ?_ GE118.out) | exact HB.out)) hb); clear HO_5; clear HO_6; clear BK118; clear HB; have HO_5 := n0_; have HO_6 := n1_; have HO127 := n2_; have HO130 := n3_; have BK118 := n4_; have HB := n5_; clear n0_ n1_ n2_ n3_ n4_ n5_; (try clear hb); (try clear hb2); (try clear hk); (try clear hi); (try clear ho0); (try clear ho1); obtain ⟨Ao18, co18, eo18⟩ := Kd.R_slice HO127.out; subst eo18; obtain ⟨Ao19, co19, eo19⟩ := Kd.R_slice HO_5.out; subst eo19) | ((with_reducible refine gate_callee (f := 42) rfl ?_); refine goesL_ (some 32) rfl rfl Try.func42 (by kernel_rfl) rfl #[.slice Ao18 t125.length co18, .slice Ao19 x5_1.length co19] rfl (by (try simp only [List.map_toArray, List.map_cons, List.map_nil]); first | done | rfl | (simp only [List.length_drop, List.length_take]; rfl)) ?_; (with_reducible refine (canon_less_int.calls k1 _ _ t125 _ _ x5_1 false _ ?side1 ?side2 ?side3 ?side4 A8.out).mono ?_); (case side1 => repeat (first | exact (Kd.R_reads' HO127.out).2.2 | (with_reducible refine Kd.C_alloc ?_ _) | (with_reducible refine Kd.C_drewN ?_ _) | (with_reducible refine Kd.C_drew ?_))); (case side2 => exact (Kd.R_reads' HO127.out).2.1); (case side3 => repeat (first | exact (Kd.R_reads' HO_5.out).2.2 | (with_reducible refine Kd.C_alloc ?_ _) | (with_reducible refine Kd.C_drewN ?_ _) | (with_reducible refine Kd.C_drew ?_))); (case side4 => exact (Kd.R_reads' HO_5.out).2.1); rintro e w' ⟨rfl, ⟨nd, rfl⟩⟩; refine ⟨_, rfl, ?_⟩) | ((with_reducible refine gate_callee (f := 42) rfl ?_); refine goesL_ (some 38) rfl rfl Try.func42 (by kernel_rfl) rfl #[.slice Ao19 x5_1.length co19, .slice Ao18 t125.length co18] rfl (by (try simp only [List.map_toArray, List.map_cons, List.map_nil]); first | done | rfl | (simp only [List.length_drop, List.length_take]; rfl)) ?_; (with_reducible refine (canon_less_int.calls k1 _ _ x5_1 _ _ t125 true _ ?side1 ?side2 ?side3 ?side4 A14.out).mono ?_); (case side1 => repeat (first | exact (Kd.R_reads' HO_5.out).2.2 | (with_reducible refine Kd.C_alloc ?_ _) | (with_reducible refine Kd.C_drewN ?_ _) | (with_reducible refine Kd.C_drew ?_))); (case side2 => exact (Kd.R_reads' HO_5.out).2.1); (case side3 => repeat (first | exact (Kd.R_reads' HO127.out).2.2 | (with_reducible refine Kd.C_alloc ?_ _) | (with_reducible refine Kd.C_drewN ?_ _) | (with_reducible refine Kd.C_drew ?_))); (case side4 => exact (Kd.R_reads' HO127.out).2.1); rintro e w' ⟨rfl, ⟨nd, rfl⟩⟩; refine ⟨_, rfl, ?_⟩))
      go_roundg k1
      case measure => have := HK1.out; omega
      case rel => exact ⟨(x5_1), (x6_1), (x7_1), (wrap64 (x8_1 + 1)), (by first | rfl | (simp; done) | (simp [*]; done)), (by first | rfl | (simp; done) | (simp [*]; done)), H', ⟨by have := HK1.out; omega⟩, ⟨by (with_reducible repeat (first | apply Kd.R_alloc | apply Kd.R_drewN | apply Kd.R_drew)); exact Kd.R_mono HO_5.out (fun _ hk => hk.1.1)⟩, ⟨by (with_reducible repeat (first | apply Kd.R_alloc | apply Kd.R_drewN | apply Kd.R_drew)); exact Kd.R_mono HO_6.out (fun _ hk => hk.1.1)⟩, ⟨by (with_reducible repeat (first | refine blk_drewN ?_ _ | refine blk_drew ?_ | refine blk_alloc ?_ _)); exact BK118.out⟩, ⟨by repeat (first | (with_reducible first | exact HB.out | apply below_alloc | apply pw_below_drewN | apply below_drew1 | refine below_set ?_ GE118.out) | exact HB.out)⟩⟩
     ·replace c15 := Bool.eq_false_iff.mpr c15
      subst c15
      have H1 : (canon_plane_best.l0 k1 x5_1 x6_1 (wrap64 (x7_1 + 1)) (wrap64 (x8_1 + 1)) a0_0 l0_1 l0_2) = some (r1, r2, r3) := by rw [if_neg (show ¬ (false = true) by decide)] at H; exact H
      clear H
      have H := H1
      clear H1
      have H' := Aside0.mk H
      clear H
      have hcz20_0 : wr.cell? ⟨gb118, 0, none⟩ = some (.int .i64 a0_0) := (blk_cell BK118.out 0).trans rfl
      have hcz20_1 : wr.cell? ⟨gb118, 1, none⟩ = some (.slice A0_1 l0_1.length c0_1) := (blk_cell BK118.out 1).trans rfl
      have hcz20_2 : wr.cell? ⟨gb118, 2, none⟩ = some (.slice A0_2 l0_2.length c0_2) := (blk_cell BK118.out 2).trans rfl
      have hfz20_0 := blk_frozen BK118.out 0
      have hfz20_1 := blk_frozen BK118.out 1
      have hfz20_2 := blk_frozen BK118.out 2
      go_wp2_with (first | ((with_reducible refine gate_callee (f := 37) rfl ?_); refine goesL_ (some 26) rfl rfl Try.func37 (by kernel_rfl) rfl #[.agg #[.int .i64 a0_0, .slice A0_1 l0_1.length c0_1, .slice A0_2 l0_2.length c0_2], .int .i64 x8_1] rfl (by (try simp only [List.map_toArray, List.map_cons, List.map_nil]); first | done | rfl | (simp only [List.length_drop, List.length_take]; rfl)) ?_; (with_reducible refine (canon_plane_code.calls k1 a0_0 _ _ l0_1 _ _ l0_2 x8_1 t125 t128 _ ?side1 ?side2 ?side3 ?side4 A7.out).mono ?_); (case side1 => repeat (first | exact (Kd.C_below HR0_1.out HB.out) | (with_reducible refine Kd.C_alloc ?_ _) | (with_reducible refine Kd.C_drewN ?_ _) | (with_reducible refine Kd.C_drew ?_))); (case side2 => exact HC0_1.out); (case side3 => repeat (first | exact (Kd.C_below HR0_2.out HB.out) | (with_reducible refine Kd.C_alloc ?_ _) | (with_reducible refine Kd.C_drewN ?_ _) | (with_reducible refine Kd.C_drew ?_))); (case side4 => exact HC0_2.out); rintro e w21 ⟨v126, v129, rfl, ho0, ho1, hb⟩; refine ⟨_, rfl, ?_⟩; have n0_ := Aside0.mk (Kd.R_mono (Kd.R_told (Kd.R_told (Kd.R_old (by (with_reducible repeat (first | apply Kd.R_alloc | apply Kd.R_drewN | apply Kd.R_drew)); exact HO_5.out) hb) (Kd.R_base ho0)) (Kd.R_base ho1)) (fun _ h_ => h_.1)); have n1_ := Aside0.mk (Kd.R_mono (Kd.R_told (Kd.R_told (Kd.R_old (by (with_reducible repeat (first | apply Kd.R_alloc | apply Kd.R_drewN | apply Kd.R_drew)); exact HO_6.out) hb) (Kd.R_base ho0)) (Kd.R_base ho1)) (fun _ h_ => h_.1)); have n2_ := Aside0.mk (Kd.R_lower (Kd.R_new' (Kd.R_new' ho0 (Kd.R_lt (by (with_reducible repeat (first | apply Kd.R_alloc | apply Kd.R_drewN | apply Kd.R_drew)); exact HO_5.out))) (Kd.R_lt (by (with_reducible repeat (first | apply Kd.R_alloc | apply Kd.R_drewN | apply Kd.R_drew)); exact HO_6.out))) (below_size (by repeat (first | (with_reducible first | exact HB.out | apply below_alloc | apply pw_below_drewN | apply below_drew1 | refine below_set ?_ GE118.out) | exact HB.out)))); have n3_ := Aside0.mk (Kd.R_lower (Kd.R_new' (Kd.R_new' ho1 (Kd.R_lt (by (with_reducible repeat (first | apply Kd.R_alloc | apply Kd.R_drewN | apply Kd.R_drew)); exact HO_5.out))) (Kd.R_lt (by (with_reducible repeat (first | apply Kd.R_alloc | apply Kd.R_drewN | apply Kd.R_drew)); exact HO_6.out))) (below_size (by repeat (first | (with_reducible first | exact HB.out | apply below_alloc | apply pw_below_drewN | apply below_drew1 | refine below_set ?_ GE118.out) | exact HB.out)))); have n4_ := Aside0.mk (blk_below (g := gb118) (o := .cells #[.int .i64 a0_0, .slice A0_1 l0_1.length c0_1, .slice A0_2 l0_2.length c0_2] 69 (0, 0)) (by (with_reducible repeat (first | refine blk_drewN ?_ _ | refine blk_drew ?_ | refine blk_alloc ?_ _)); exact BK118.out) hb); have n5_ := Aside0.mk (below_step (by repeat (first | (with_reducible first | exact HB.out | apply below_alloc | apply pw_below_drewN | apply below_drew1 | refine below_set ?_ GE118.out) | exact HB.out)) hb); clear HO_5; clear HO_6; clear BK118; clear HB; have HO_5 := n0_; have HO_6 := n1_; have HO127 := n2_; have HO130 := n3_; have BK118 := n4_; have HB := n5_; clear n0_ n1_ n2_ n3_ n4_ n5_; (try clear hb); (try clear hb2); (try clear hk); (try clear hi); (try clear ho0); (try clear ho1); obtain ⟨Ao22, co22, eo22⟩ := Kd.R_slice HO127.out; subst eo22; obtain ⟨Ao23, co23, eo23⟩ := Kd.R_slice HO_5.out; subst eo23) | ((with_reducible refine gate_callee (f := 42) rfl ?_); refine goesL_ (some 32) rfl rfl Try.func42 (by kernel_rfl) rfl #[.slice Ao22 t125.length co22, .slice Ao23 x5_1.length co23] rfl (by (try simp only [List.map_toArray, List.map_cons, List.map_nil]); first | done | rfl | (simp only [List.length_drop, List.length_take]; rfl)) ?_; (with_reducible refine (canon_less_int.calls k1 _ _ t125 _ _ x5_1 false _ ?side1 ?side2 ?side3 ?side4 A8.out).mono ?_); (case side1 => repeat (first | exact (Kd.R_reads' HO127.out).2.2 | (with_reducible refine Kd.C_alloc ?_ _) | (with_reducible refine Kd.C_drewN ?_ _) | (with_reducible refine Kd.C_drew ?_))); (case side2 => exact (Kd.R_reads' HO127.out).2.1); (case side3 => repeat (first | exact (Kd.R_reads' HO_5.out).2.2 | (with_reducible refine Kd.C_alloc ?_ _) | (with_reducible refine Kd.C_drewN ?_ _) | (with_reducible refine Kd.C_drew ?_))); (case side4 => exact (Kd.R_reads' HO_5.out).2.1); rintro e w' ⟨rfl, ⟨nd, rfl⟩⟩; refine ⟨_, rfl, ?_⟩) | ((with_reducible refine gate_callee (f := 42) rfl ?_); refine goesL_ (some 38) rfl rfl Try.func42 (by kernel_rfl) rfl #[.slice Ao23 x5_1.length co23, .slice Ao22 t125.length co22] rfl (by (try simp only [List.map_toArray, List.map_cons, List.map_nil]); first | done | rfl | (simp only [List.length_drop, List.length_take]; rfl)) ?_; (with_reducible refine (canon_less_int.calls k1 _ _ x5_1 _ _ t125 false _ ?side1 ?side2 ?side3 ?side4 A14.out).mono ?_); (case side1 => repeat (first | exact (Kd.R_reads' HO_5.out).2.2 | (with_reducible refine Kd.C_alloc ?_ _) | (with_reducible refine Kd.C_drewN ?_ _) | (with_reducible refine Kd.C_drew ?_))); (case side2 => exact (Kd.R_reads' HO_5.out).2.1); (case side3 => repeat (first | exact (Kd.R_reads' HO127.out).2.2 | (with_reducible refine Kd.C_alloc ?_ _) | (with_reducible refine Kd.C_drewN ?_ _) | (with_reducible refine Kd.C_drew ?_))); (case side4 => exact (Kd.R_reads' HO127.out).2.1); rintro e w' ⟨rfl, ⟨nd, rfl⟩⟩; refine ⟨_, rfl, ?_⟩))
      go_roundg k1
      case measure => have := HK1.out; omega
      case rel => exact ⟨(x5_1), (x6_1), (wrap64 (x7_1 + 1)), (wrap64 (x8_1 + 1)), (by first | rfl | (simp; done) | (simp [*]; done)), (by first | rfl | (simp; done) | (simp [*]; done)), H', ⟨by have := HK1.out; omega⟩, ⟨by (with_reducible repeat (first | apply Kd.R_alloc | apply Kd.R_drewN | apply Kd.R_drew)); exact Kd.R_mono HO_5.out (fun _ hk => hk.1.1)⟩, ⟨by (with_reducible repeat (first | apply Kd.R_alloc | apply Kd.R_drewN | apply Kd.R_drew)); exact Kd.R_mono HO_6.out (fun _ hk => hk.1.1)⟩, ⟨by (with_reducible repeat (first | refine blk_drewN ?_ _ | refine blk_drew ?_ | refine blk_alloc ?_ _)); exact BK118.out⟩, ⟨by repeat (first | (with_reducible first | exact HB.out | apply below_alloc | apply pw_below_drewN | apply below_drew1 | refine below_set ?_ GE118.out) | exact HB.out)⟩⟩
   ·rw [if_neg c6] at H
    have c6b0 : decide (x8_1 < (l0_1.length : Int)) = false := decide_eq_false c6
    clear c6
    simp only [Option.some.injEq, Prod.mk.injEq] at H
    obtain ⟨rfl, rfl, rfl⟩ := H
    have hcz24_0 : wr.cell? ⟨gb118, 0, none⟩ = some (.int .i64 a0_0) := (blk_cell BK118.out 0).trans rfl
    have hcz24_1 : wr.cell? ⟨gb118, 1, none⟩ = some (.slice A0_1 l0_1.length c0_1) := (blk_cell BK118.out 1).trans rfl
    have hcz24_2 : wr.cell? ⟨gb118, 2, none⟩ = some (.slice A0_2 l0_2.length c0_2) := (blk_cell BK118.out 2).trans rfl
    have hfz24_0 := blk_frozen BK118.out 0
    have hfz24_1 := blk_frozen BK118.out 1
    have hfz24_2 := blk_frozen BK118.out 2
    go_wp2
    go_ret3
    exact ⟨_, _, by first | rfl | (simp [errW_none, errW_some] <;> rfl) | (simp [*, errW_none, errW_some] <;> rfl), by (with_reducible repeat (first | apply Kd.R_alloc | apply Kd.R_drewN | apply Kd.R_drew)); exact HO_5.out, by (with_reducible repeat (first | apply Kd.R_alloc | apply Kd.R_drewN | apply Kd.R_drew)); exact HO_6.out, by repeat (first | (with_reducible first | exact HB.out | apply below_alloc | apply pw_below_drewN | apply below_drew1 | refine below_set ?_ GE118.out) | exact HB.out)⟩
end Go.Proofs.Yteeihjpnhjnknaa.GAll
namespace Go.Proofs.Yteeihjpnhjnknaa.GAll
open Go.RowKit Go.Proofs.YteeihjpnhjnknaaW.PrintWords Go.Proofs.YteeihjpnhjnknaaW.PrintLast Go.Proofs.YteeihjpnhjnknaaW.PrintMore
attribute [local go_sem] max2_int min2_int max_two min_two max_three min_three max_four min_four   -- for this text's walks alone
set_option linter.unusedVariables false
set_option linter.unusedSimpArgs false
def tangramref21_Best.l0 (a0 : Int) (l : List S89) (r : List (List Int)) : Nat → List Int → Int → Int → Nat → Option (List Int × Int × Int)
 | 0, _, _, _, _ => none
 | k + 1, b, t, n, i => if i < 2 * l.length then (tangramref21_Seen.f k a0 l r (i : Int)).bind fun u => (tangramref03_SameInts.f k u.1 b).bind fun s => (tangramref21_Less.f k u.1 b).bind fun x =>
   if x = true then tangramref21_Best.l0 a0 l r k u.1 (i : Int) 1 (i + 1) else if s = true then tangramref21_Best.l0 a0 l r k b t (IntKind.i64.wrap (n + 1)) (i + 1) else tangramref21_Best.l0 a0 l r k b t n (i + 1) else some (b, t, n)
def tangramref21_Best.f (k : Nat) (a0_0 : Int) (l0_1 : List S89) (l1 : List (List Int)) : Option (List Int × Int × Int) := if l0_1.length ≤ 4194304 then (tangramref21_Seen.f k a0_0 l0_1 l1 0).bind fun u => tangramref21_Best.l0 a0_0 l0_1 l1 k u.1 0 1 1 else none
theorem tangramref21_Best.mono_l (a0 : Int) (l : List S89) (r : List (List Int)) : ∀ k b t n i, LeO (tangramref21_Best.l0 a0 l r k b t n i) (tangramref21_Best.l0 a0 l r (k + 1) b t n i)
 | 0, _, _, _, _ => fun _ h => by simp [tangramref21_Best.l0] at h
 | k + 1, b, t, n, i => by
  unfold tangramref21_Best.l0
  exact LeO.ite (LeO.bind (tangramref21_Seen.mono _ _ _ _ _) (fun _ => LeO.bind (tangramref03_SameInts.mono _ _ _) (fun _ => LeO.bind (tangramref21_Less.mono _ _ _) (fun _ => LeO.ite (tangramref21_Best.mono_l a0 l r k _ _ _ _) (LeO.ite (tangramref21_Best.mono_l a0 l r k _ _ _ _) (tangramref21_Best.mono_l a0 l r k _ _ _ _)))))) (LeO.refl _)
theorem tangramref21_Best.mono : ∀ a0 a1 a2 k, LeO (tangramref21_Best.f k a0 a1 a2) (tangramref21_Best.f (k + 1) a0 a1 a2) := fun _ _ _ _ =>
 LeO.ite (LeO.bind (tangramref21_Seen.mono _ _ _ _ _) (fun _ => tangramref21_Best.mono_l _ _ _ _ _ _ _ _)) (LeO.refl _)
def tangramref21_Code.f (k : Nat) (a0_0 : Int) (l0_1 : List S89) (l1 : List (List Int)) : Option (List Int × Int) := (tangramref21_Fault.f k a0_0 l0_1 l1).bind fun t => if t = 0 then (tangramref21_Best.f k a0_0 l0_1 l1).bind fun u => some (u.1, 0) else some ([], t)
theorem tangramref21_Code.mono : ∀ a0 a1 a2 k, LeO (tangramref21_Code.f k a0 a1 a2) (tangramref21_Code.f (k + 1) a0 a1 a2) := fun _ _ _ _ =>
 LeO.bind (tangramref21_Fault.mono _ _ _ _) (fun _ => LeO.ite (LeO.bind (tangramref21_Best.mono _ _ _ _) (fun _ => LeO.refl _)) (LeO.refl _))
end Go.Proofs.Yteeihjpnhjnknaa.GAll
namespace Go.Proofs.Yteeihjpnhjnknaa.Rot
open Go.RowKit Go.Proofs.YteeihjpnhjnknaaW.PrintWords Go.Proofs.YteeihjpnhjnknaaW.PrintLast Go.Proofs.YteeihjpnhjnknaaW.PrintMore Go.Proofs.Yteeihjpnhjnknaa.GAll Go.Proofs.Yteeihjpnhjnknaa.Mem Go.Proofs.Yteeihjpnhjnknaa.Seen
set_option linter.unusedVariables false
set_option linter.unusedSimpArgs false
def bst (C : Nat → List Int) : Nat → Nat × Nat
 | 0 => (0, 1)
 | j + 1 => if ltB (C (j + 1)) (C (bst C j).1) = true then (j + 1, 1) else if ltB (C (bst C j).1) (C (j + 1)) = true then bst C j else ((bst C j).1, (bst C j).2 + 1)
theorem bst_le (C : Nat → List Int) : ∀ j, (bst C j).1 ≤ j ∧ (bst C j).2 ≤ j + 1
 | 0 => ⟨Nat.le_refl _, Nat.le_refl _⟩
 | j + 1 => by
  have := bst_le C j
  unfold bst
  split
  ·exact ⟨Nat.le_refl _, by simp⟩
  ·split
   ·omega
   ·simp only; omega
section
variable {n : Nat} {l : List Ed} {r : List (List Int)}
abbrev codes (n : Nat) (l : List Ed) (r : List (List Int)) (h : Nat) : List Int := (seenOf n l r h).cd
abbrev bestOf (n : Nat) (l : List Ed) (r : List (List Int)) : Nat × Nat := bst (codes n l r) (2 * l.length - 1)
theorem best_loop (h : IsMap n l r) (d : Nat) : ∀ j, j + 1 + d = 2 * l.length → ∀ b c, bst (codes n l r) j = (b, c) →
  Ev (fun k => canon_plane_best.l0 k (codes n l r b) (seenOf n l r b).ord (c : Int) ((j + 1 : Nat) : Int) (n : Int) (nxOf l r) (toOf l)) (codes n l r (bestOf n l r).1, (seenOf n l r (bestOf n l r).1).ord, ((bestOf n l r).2 : Int)) := by
 have hlen := h.len
 have hll := h.good.2.2.1
 induction d with
 | zero =>
  intro j hj b c hb
  have e : bestOf n l r = (b, c) := by rw [← hb]; unfold bestOf; congr 1; omega
  rw [e]
  refine Ev.step (f := fun _ => some _) (fun k => ?_) (Ev.now _)
  simp only [canon_plane_best.l0]
  rw [if_neg (by rw [hlen]; omega)]
 | succ d ih =>
  intro j hj b c hb
  have hle := bst_le (codes n l r) j
  rw [hb] at hle
  simp only at hle
  have hs : bst (codes n l r) (j + 1) = if ltB (codes n l r (j + 1)) (codes n l r b) = true then (j + 1, 1) else if ltB (codes n l r b) (codes n l r (j + 1)) = true then (b, c) else (b, c + 1) := by
   rw [bst, hb]
  have hI := ih (j + 1) (by omega)
  have c1 := code_ev h (root := j + 1) (by omega)
  have l1 := less_ev (a := codes n l r (j + 1)) (b := codes n l r b) (seen_cd h _)
  have l2 := less_ev (a := codes n l r b) (b := codes n l r (j + 1)) (seen_cd h _)
  refine Ev.step (f := fun k => (canon_plane_code.f k (n : Int) (nxOf l r) (toOf l) ((j + 1 : Nat) : Int)).bind fun bt => (canon_less_int.f k bt.1 (codes n l r b)).bind fun t => if t = true then canon_plane_best.l0 k bt.1 bt.2 ((1 : Nat) : Int) ((j + 1 + 1 : Nat) : Int) (n : Int) (nxOf l r) (toOf l) else (canon_less_int.f k (codes n l r b) bt.1).bind fun t2 => if t2 = true then canon_plane_best.l0 k (codes n l r b) (seenOf n l r b).ord (c : Int) ((j + 1 + 1 : Nat) : Int) (n : Int) (nxOf l r) (toOf l) else canon_plane_best.l0 k (codes n l r b) (seenOf n l r b).ord ((c + 1 : Nat) : Int) ((j + 1 + 1 : Nat) : Int) (n : Int) (nxOf l r) (toOf l)) (fun k => ?_) ?_
  ·simp only [canon_plane_best.l0]
   rw [if_pos (by rw [hlen]; omega), w1 (i := j + 1) (by omega), w1 (i := c) (by omega)]
   rfl
  ·refine Ev.bind c1 (Ev.bind l1 ?_)
   by_cases q1 : ltB (codes n l r (j + 1)) (codes n l r b) = true
   ·rw [if_pos q1] at hs
    exact Ev.congr (fun k => if_pos q1) (hI _ _ hs)
   ·rw [if_neg q1] at hs
    refine Ev.congr (fun k => if_neg q1) (Ev.bind l2 ?_)
    by_cases q2 : ltB (codes n l r b) (codes n l r (j + 1)) = true
    ·rw [if_pos q2] at hs
     exact Ev.congr (fun k => if_pos q2) (hI _ _ hs)
    ·rw [if_neg q2] at hs
     exact Ev.congr (fun k => if_neg q2) (hI _ _ hs)
theorem best_ev (h : IsMap n l r) (h0 : 0 < l.length) : Ev (fun k => canon_plane_best.f k (n : Int) (nxOf l r) (toOf l)) (codes n l r (bestOf n l r).1, (seenOf n l r (bestOf n l r).1).ord, ((bestOf n l r).2 : Int)) := by
 unfold canon_plane_best.f
 exact Ev.bind (code_ev h (root := 0) (by omega)) (best_loop h (2 * l.length - 1) 0 (by omega) 0 1 rfl)
end
end Go.Proofs.Yteeihjpnhjnknaa.Rot
namespace Go.Proofs.Yteeihjpnhjnknaa.Seen
open Go.RowKit Go.Proofs.YteeihjpnhjnknaaW.PrintWords Go.Proofs.Yteeihjpnhjnknaa.Mem
set_option linter.unusedVariables false
set_option linter.unusedSimpArgs false
def frm (tos : List Int) (h : Int) : Int := gi tos (tw h).toNat
def too (tos : List Int) (h : Int) : Int := gi tos h.toNat
structure Web (n : Nat) (nx tos : List Int) : Prop extends Fit n nx tos where
 inv : ∀ h : Nat, h < nx.length → tw (tw (h : Int)) = h
 fnext : ∀ h : Nat, h < nx.length → frm tos (gi nx h) = frm tos h
 around : ∀ x y : Nat, x < nx.length → y < nx.length → frm tos x = frm tos y → ∃ j, j < per nx (x : Int) ∧ it nx (x : Int) j = y
 conn : ∀ P : Nat → Prop, (∀ h : Nat, h < nx.length → P (frm tos h).toNat → P (too tos h).toNat) → ∀ a b, a < n → b < n → P a → P b
structure Inv (n : Nat) (tos : List Int) (s : St) : Prop where
 a : ∀ i, i < s.ord.length → gi s.num (gi s.ord i).toNat = (i : Int)
 b : ∀ v, v < n → 0 ≤ gi s.num v → ∃ i, i < s.ord.length ∧ gi s.num v = (i : Int) ∧ gi s.ord i = (v : Int)
 c : ∀ i, i < s.ent.length → frm tos (gi s.ent i) = gi s.ord i
structure Ext (s t : St) : Prop where
 num : ∀ v, 0 ≤ gi s.num v → gi t.num v = gi s.num v
 ent : ∃ x, t.ent = s.ent ++ x
 ord : ∃ x, t.ord = s.ord ++ x
theorem Ext.refl (s : St) : Ext s s := ⟨fun _ _ => rfl, ⟨[], by simp⟩, ⟨[], by simp⟩⟩
theorem Ext.trans {a b c : St} (h : Ext a b) (k : Ext b c) : Ext a c := by
 obtain ⟨x, hx⟩ := h.ent
 obtain ⟨y, hy⟩ := k.ent
 obtain ⟨u, hu⟩ := h.ord
 obtain ⟨v, hv⟩ := k.ord
 refine ⟨fun w hw => ?_, ⟨x ++ y, by rw [hy, hx, List.append_assoc]⟩, ⟨u ++ v, by rw [hv, hu, List.append_assoc]⟩⟩
 have := h.num w hw
 rw [k.num w (by rw [this]; exact hw), this]
theorem gi_pre {x y : List Int} {i : Nat} (h : i < x.length) : gi (x ++ y) i = gi x i := by
 unfold gi
 rw [List.getD_eq_getElem?_getD, List.getD_eq_getElem?_getD, List.getElem?_append_left h]
theorem Ext.gent {s t : St} (h : Ext s t) {i : Nat} (hi : i < s.ent.length) : gi t.ent i = gi s.ent i := by
 obtain ⟨x, hx⟩ := h.ent
 rw [hx, gi_pre hi]
theorem Ext.lent {s t : St} (h : Ext s t) : s.ent.length ≤ t.ent.length := by
 obtain ⟨x, hx⟩ := h.ent
 rw [hx, List.length_append]; omega
section
variable {n : Nat} {nx tos : List Int}
theorem step_ext (hf : Fit n nx tos) {s : St} (h : Ok n nx.length s) (q : Int) : Ext s (stepH tos s q) := by
 unfold stepH
 split
 ·rename_i hn
  refine ⟨fun v hv => ?_, ⟨_, rfl⟩, ⟨_, rfl⟩⟩
  show gi (s.num.set _ _) v = _
  rw [gi_set, if_neg]
  rintro ⟨e, _⟩
  rw [e] at hn
  omega
 ·exact ⟨fun _ _ => rfl, ⟨[], by simp⟩, ⟨[], by simp⟩⟩
theorem step_num (hf : Fit n nx tos) {s : St} (h : Ok n nx.length s) {q : Int} (h0 : 0 ≤ q) (h1 : q < (nx.length : Int)) :
  0 ≤ gi (stepH tos s q).num (too tos q).toNat ∧ (stepH tos s q).cd = s.cd ++ [gi (stepH tos s q).num (too tos q).toNat] := by
 obtain ⟨p, rfl⟩ := Int.eq_ofNat_of_zero_le h0
 have ht := hf.htos p (by omega)
 have hl : (gi tos ((p : Int)).toNat).toNat < s.num.length := by rw [h.num, Int.toNat_natCast]; omega
 unfold stepH too
 by_cases c : gi s.num (gi tos ((p : Int)).toNat).toNat < 0
 ·rw [if_pos c]
  simp only
  rw [gi_set, if_pos ⟨rfl, hl⟩]
  exact ⟨by omega, rfl⟩
 ·rw [if_neg c]
  exact ⟨Int.not_lt.1 c, rfl⟩
theorem step_inv (hw : Web n nx tos) {s : St} (h : Ok n nx.length s) (k : Inv n tos s) {q : Int} (h0 : 0 ≤ q) (h1 : q < (nx.length : Int)) : Inv n tos (stepH tos s q) := by
 obtain ⟨p, rfl⟩ := Int.eq_ofNat_of_zero_le h0
 have hp : p < nx.length := by omega
 have ht := hw.htos p hp
 unfold stepH
 rw [Int.toNat_natCast]
 by_cases c : gi s.num (gi tos p).toNat < 0
 ·rw [if_pos c]
  have hl : (gi tos p).toNat < s.num.length := by rw [h.num]; omega
  have hE := h.ent
  refine ⟨fun i hi => ?_, fun v hv hn => ?_, fun i hi => ?_⟩
  ·simp only [List.length_append, List.length_singleton] at hi
   simp only [gi_app, gi_set]
   by_cases d : i < s.ord.length
   ·rw [if_pos d, if_neg, k.a i d]
    rintro ⟨e, _⟩
    have := k.a i d
    rw [← e] at this
    omega
   ·obtain rfl : i = s.ord.length := by omega
    rw [if_neg d, if_pos rfl, if_pos ⟨rfl, hl⟩]
  ·simp only [gi_set] at hn ⊢
   by_cases e : (gi tos p).toNat = v ∧ v < s.num.length
   ·rw [if_pos e]
    refine ⟨s.ord.length, by simp, rfl, ?_⟩
    rw [gi_app, if_neg (by omega), if_pos rfl]; omega
   ·rw [if_neg e] at hn ⊢
    obtain ⟨i, i1, i2, i3⟩ := k.b v hv hn
    exact ⟨i, by simp only [List.length_append]; omega, i2, by rw [gi_app, if_pos i1]; exact i3⟩
  ·simp only [List.length_append, List.length_singleton] at hi
   simp only [gi_app]
   by_cases d : i < s.ent.length
   ·rw [if_pos d, if_pos (by omega)]; exact k.c i d
   ·rw [if_neg d, if_pos (by omega), if_neg (by omega), if_pos (by omega)]
    unfold frm
    rw [hw.inv p hp, Int.toNat_natCast]
 ·rw [if_neg c]
  exact ⟨k.a, k.b, k.c⟩
theorem Inv.cd {s : St} (h : Inv n tos s) (c : List Int) : Inv n tos { s with cd := c } := ⟨h.a, h.b, h.c⟩
def rowTo (nx tos : List Int) (F : St) (h : Int) (j : Nat) : List Int := (List.range j).map fun t => gi F.num (too tos (it nx h t)).toNat
theorem turn_all (hw : Web n nx tos) {s : St} (h : Ok n nx.length s) (k : Inv n tos s) {q : Int} (h0 : 0 ≤ q) (h1 : q < (nx.length : Int)) : ∀ j, Inv n tos (turn nx tos s q j) ∧ Ext s (turn nx tos s q j) ∧ (∀ t, t < j → 0 ≤ gi (turn nx tos s q j).num (too tos (it nx q t)).toNat) ∧ ∀ F, Ext (turn nx tos s q j) F → (turn nx tos s q j).cd = s.cd ++ rowTo nx tos F q j
 | 0 => ⟨k, Ext.refl _, fun t ht => absurd ht (by omega), fun F _ => by simp [turn, rowTo]⟩
 | j + 1 => by
  obtain ⟨i1, i2, i3, i4⟩ := turn_all hw h k h0 h1 j
  have ho := h.turn hw.toFit h0 h1 j
  have hq := it_in hw.toFit h0 h1 j
  have e1 := step_ext hw.toFit ho (it nx q j)
  have e2 := step_num hw.toFit ho hq.1 hq.2
  refine ⟨step_inv hw ho i1 hq.1 hq.2, i2.trans e1, fun t ht => ?_, fun F hF => ?_⟩
  ·show 0 ≤ gi (stepH tos (turn nx tos s q j) (it nx q j)).num _
   rcases Nat.lt_or_eq_of_le (Nat.le_of_lt_succ ht) with g | rfl
   ·rw [e1.num _ (i3 t g)]; exact i3 t g
   ·exact e2.1
  ·show (stepH tos (turn nx tos s q j) (it nx q j)).cd = _
   have hF : Ext (stepH tos (turn nx tos s q j) (it nx q j)) F := hF
   rw [e2.2, i4 F (e1.trans hF)]
   unfold rowTo
   rw [List.range_succ, List.map_append, List.append_assoc, ← hF.num _ e2.1]
   rfl
def blk (row : List Int) : List Int := (row.length : Int) :: row
def rowF (nx tos : List Int) (F : St) (h : Int) : List Int := rowTo nx tos F h (per nx h)
theorem rowF_length (F : St) (h : Int) : (rowF nx tos F h).length = per nx h := by unfold rowF rowTo; simp
theorem vert_all (hw : Web n nx tos) {s : St} (h : Ok n nx.length s) (k : Inv n tos s) {q : Int} (h0 : 0 ≤ q) (h1 : q < (nx.length : Int)) :
  Inv n tos (vert nx tos s q) ∧ Ext s (vert nx tos s q) ∧ (∀ t, t < per nx q → 0 ≤ gi (vert nx tos s q).num (too tos (it nx q t)).toNat) ∧ ∀ F, Ext (vert nx tos s q) F → (vert nx tos s q).cd = s.cd ++ blk (rowF nx tos F q) := by
 obtain ⟨i1, i2, i3, i4⟩ := turn_all hw (h.cd []) (k.cd []) h0 h1 (per nx q)
 refine ⟨⟨i1.a, i1.b, i1.c⟩, ⟨i2.num, i2.ent, i2.ord⟩, i3, fun F hF => ?_⟩
 have := i4 F ⟨hF.num, hF.ent, hF.ord⟩
 show s.cd ++ ((per nx q : Nat) : Int) :: (turn nx tos { s with cd := [] } q (per nx q)).cd = _
 rw [this, List.nil_append]
 unfold blk
 rw [rowF_length]
 rfl
def Live (nx tos : List Int) (s : St) (k : Nat) : Prop := ∀ i, i < k → i < (upto nx tos s i).ent.length
structure Run (n : Nat) (nx tos : List Int) (s : St) (k : Nat) : Prop where
 ok : Ok n nx.length (upto nx tos s k)
 inv : Inv n tos (upto nx tos s k)
 ext : Ext s (upto nx tos s k)
 le : k ≤ (upto nx tos s k).ent.length
 met : ∀ i, i < k → ∀ t, t < per nx (gi (upto nx tos s k).ent i) → 0 ≤ gi (upto nx tos s k).num (too tos (it nx (gi (upto nx tos s k).ent i) t)).toNat
 cd : ∀ F, Ext (upto nx tos s k) F → (upto nx tos s k).cd = s.cd ++ (List.range k).flatMap fun i => blk (rowF nx tos F (gi F.ent i))
theorem run (hw : Web n nx tos) {s : St} (h : Ok n nx.length s) (g : Inv n tos s) : ∀ k, Live nx tos s k → Run n nx tos s k
 | 0, _ => ⟨h, g, Ext.refl _, Nat.zero_le _, fun i hi => absurd hi (by omega), fun F _ => by simp [upto]⟩
 | k + 1, hl => by
  have R := run hw h g k (fun i hi => hl i (by omega))
  have hk := hl k (by omega)
  have hq := R.ok.inE k hk
  obtain ⟨v1, v2, v3, v4⟩ := vert_all hw R.ok R.inv hq.1 hq.2
  have e := upto_go hk
  have hle := v2.lent
  refine ⟨h.upto hw.toFit _, by rw [e]; exact v1, by rw [e]; exact R.ext.trans v2, by rw [e]; omega, fun i hi t ht => ?_, fun F hF => ?_⟩
  ·rw [e] at ht ⊢
   rcases Nat.lt_or_eq_of_le (Nat.le_of_lt_succ hi) with c | rfl
   ·have e2 := v2.gent (i := i) (by omega)
    rw [e2] at ht ⊢
    have := R.met i c t ht
    rw [v2.num _ this]; exact this
   ·have e2 := v2.gent (i := i) (by omega)
    rw [e2] at ht ⊢
    exact v3 t ht
  ·rw [e] at hF ⊢
   rw [v4 F hF, R.cd F (v2.trans hF), List.range_succ, List.flatMap_append, List.append_assoc, ← (v2.trans hF).gent (i := k) (by omega)]
   simp
theorem ends (hw : Web n nx tos) {s : St} (h : Ok n nx.length s) (g : Inv n tos s) : ∃ k, k ≤ n ∧ Run n nx tos s k ∧ upto nx tos s n = upto nx tos s k ∧ (upto nx tos s k).ent.length = k := by
 have key : ∀ d k, k + d = n → Live nx tos s k → ∃ k, k ≤ n ∧ Run n nx tos s k ∧ upto nx tos s n = upto nx tos s k ∧ (upto nx tos s k).ent.length = k := by
  intro d
  induction d with
  | zero =>
   intro k hk hl
   obtain rfl : k = n := by omega
   have R := run hw h g k hl
   exact ⟨k, Nat.le_refl _, R, rfl, Nat.le_antisymm R.ok.le R.le⟩
  | succ d ih =>
   intro k hk hl
   by_cases c : k < (upto nx tos s k).ent.length
   ·refine ih (k + 1) (by omega) (fun i hi => ?_)
    rcases Nat.lt_or_eq_of_le (Nat.le_of_lt_succ hi) with q | rfl
    ·exact hl i q
    ·exact c
   ·have R := run hw h g k hl
    refine ⟨k, by omega, R, ?_, Nat.le_antisymm (by omega) R.le⟩
    have := upto_stop (nx := nx) (tos := tos) (s := s) (k := k) (by omega) (d + 1)
    rw [show n = k + (d + 1) by omega, this]
 exact key n 0 (by omega) (fun i hi => absurd hi (by omega))
structure Full (n : Nat) (nx tos : List Int) (root : Int) (F : St) : Prop where
 num : F.num.length = n
 ord : F.ord.length = n
 ent : F.ent.length = n
 inv : Inv n tos F
 pos : ∀ v, v < n → 0 ≤ gi F.num v
 inO : ∀ i, i < n → 0 ≤ gi F.ord i ∧ gi F.ord i < (n : Int)
 inE : ∀ i, i < n → 0 ≤ gi F.ent i ∧ gi F.ent i < (nx.length : Int)
 root : 0 < n ∧ gi F.ent 0 = root
 cd : F.cd = (List.range n).flatMap fun i => blk (rowF nx tos F (gi F.ent i))
theorem neg_none : ∀ (l : List Int), (∀ v, v < l.length → 0 ≤ gi l v) → neg l = 0
 | [], _ => rfl
 | a :: l, h => by
  have h1 : 0 ≤ a := h 0 (by simp)
  have h2 := neg_none l (fun v hv => h (v + 1) (by simp; omega))
  unfold neg at h2 ⊢
  rw [List.filter_cons_of_neg (by simpa using h1)]
  exact h2
theorem full (hw : Web n nx tos) {root : Nat} (hr : root < nx.length) : Full n nx tos (root : Int) (all n nx tos (root : Int)) := by
 have hv : 0 ≤ frm tos (root : Int) ∧ frm tos (root : Int) < (n : Int) := by
  have h1 := hw.htw root hr
  exact hw.htos _ (by omega)
 have hs : Ok n nx.length (start n tos (root : Int) (frm tos (root : Int))) := Ok.start (by omega) hv
 obtain ⟨v, hv2⟩ := Int.eq_ofNat_of_zero_le hv.1
 have hvn : v < n := by omega
 have hg : Inv n tos (start n tos (root : Int) (frm tos (root : Int))) := by
  unfold start
  rw [hv2, Int.toNat_natCast]
  refine ⟨fun i hi => ?_, fun u hu hn => ?_, fun i hi => ?_⟩
  ·obtain rfl : i = 0 := by simpa using hi
   show gi ((List.replicate n (-1)).set v 0) ((v : Int)).toNat = 0
   rw [Int.toNat_natCast, gi_set, if_pos ⟨rfl, by simpa using hvn⟩]
  ·simp only [gi_set] at hn ⊢
   by_cases e : v = u ∧ u < (List.replicate n (-1 : Int)).length
   ·rw [if_pos e]
    exact ⟨0, by simp, rfl, by rw [e.1]; rfl⟩
   ·rw [if_neg e] at hn
    unfold gi at hn
    rw [List.getD_eq_getElem?_getD, List.getElem?_replicate, if_pos hu] at hn
    exact absurd hn (by decide)
  ·obtain rfl : i = 0 := by simpa using hi
   show frm tos (root : Int) = (v : Int)
   exact hv2
 obtain ⟨k, hk, R, e, hl⟩ := ends hw hs hg
 have hall : all n nx tos (root : Int) = upto nx tos (start n tos (root : Int) (frm tos (root : Int))) k := e
 have hE := R.ok.ent
 have hc := R.ok.cnt
 have h0 : 0 < k := by
  have := R.ext.lent
  have : (start n tos (root : Int) (frm tos (root : Int))).ent.length = 1 := rfl
  omega
 have hpos : ∀ u, u < n → 0 ≤ gi (upto nx tos (start n tos (root : Int) (frm tos (root : Int))) k).num u := by
  intro u hu
  have e0 := R.inv.a 0 (by omega)
  have o0 := R.ok.inO 0 (by omega)
  refine hw.conn (fun a => 0 ≤ gi (upto nx tos (start n tos (root : Int) (frm tos (root : Int))) k).num a) (fun h hh hP => ?_) (gi (upto nx tos (start n tos (root : Int) (frm tos (root : Int))) k).ord 0).toNat u (by omega) hu (by rw [e0]; omega)
  have hfr : 0 ≤ frm tos (h : Int) ∧ frm tos (h : Int) < (n : Int) := by
   have h1 := hw.htw h hh
   exact hw.htos _ (by omega)
  obtain ⟨i, i1, i2, i3⟩ := R.inv.b _ (by omega) hP
  have ic := R.inv.c i (by omega)
  rw [i3, Int.toNat_of_nonneg hfr.1] at ic
  obtain ⟨m1, m2⟩ := R.ok.inE i (by omega)
  obtain ⟨x, hx⟩ := Int.eq_ofNat_of_zero_le m1
  rw [hx] at ic m2
  obtain ⟨j, j1, j2⟩ := hw.around x h (by omega) hh ic
  have := R.met i (by omega) j (by rw [hx]; exact j1)
  rw [hx, j2] at this
  exact this
 have hz := neg_none _ (fun u hu => hpos u (by rw [R.ok.num] at hu; exact hu))
 have hkn : k = n := by omega
 rw [hall]
 subst hkn
 refine ⟨R.ok.num, by omega, hl, R.inv, hpos, fun i hi => R.ok.inO i (by omega), fun i hi => R.ok.inE i (by omega), ⟨h0, R.ext.gent (i := 0) (by show 0 < 1; omega)⟩, ?_⟩
 have := R.cd _ (Ext.refl _)
 exact this
theorem rows_eq : ∀ (X Y : List (List Int)), X.flatMap blk = Y.flatMap blk → X = Y
 | [], [], _ => rfl
 | [], y :: Y, h => by simp [blk] at h
 | x :: X, [], h => by simp [blk] at h
 | x :: X, y :: Y, h => by
  simp only [List.flatMap_cons, blk, List.cons_append, List.cons.injEq] at h
  obtain ⟨h1, h2⟩ := h
  obtain ⟨h3, h4⟩ := List.append_inj h2 (by omega)
  rw [h3, rows_eq X Y h4]
end
theorem full_cd {n : Nat} {nx tos : List Int} {root : Int} {F : St} (h : Full n nx tos root F) : F.cd = ((List.range n).map fun i => rowF nx tos F (gi F.ent i)).flatMap blk := by
 rw [h.cd, List.flatMap_map]
theorem full_rows {n n' : Nat} {nx tos nx' tos' : List Int} {root root' : Int} {F F' : St} (h : Full n nx tos root F) (h' : Full n' nx' tos' root' F') (e : F.cd = F'.cd) : n = n' ∧ ∀ i, i < n → rowF nx tos F (gi F.ent i) = rowF nx' tos' F' (gi F'.ent i) := by
 rw [full_cd h, full_cd h'] at e
 have k := rows_eq _ _ e
 have hl := congrArg List.length k
 simp only [List.length_map, List.length_range] at hl
 subst hl
 refine ⟨rfl, fun i hi => ?_⟩
 have := congrArg (fun x => x[i]?) k
 simpa [hi] using this
theorem full_inj {n : Nat} {nx tos : List Int} {root : Int} {F : St} (h : Full n nx tos root F) {i j : Nat} (hi : i < n) (hj : j < n) (e : gi F.ord i = gi F.ord j) : i = j := by
 have a := h.inv.a i (by rw [h.ord]; exact hi)
 have b := h.inv.a j (by rw [h.ord]; exact hj)
 rw [e, b] at a
 omega
end Go.Proofs.Yteeihjpnhjnknaa.Seen
namespace Go.Proofs.Yteeihjpnhjnknaa.Rot
open Go.RowKit Go.Proofs.YteeihjpnhjnknaaW.PrintWords Go.Proofs.YteeihjpnhjnknaaW.PrintLast Go.Proofs.YteeihjpnhjnknaaW.PrintMore Go.Proofs.Yteeihjpnhjnknaa.GAll Go.Proofs.Yteeihjpnhjnknaa.Mem Go.Proofs.Yteeihjpnhjnknaa.Seen
set_option linter.unusedVariables false
set_option linter.unusedSimpArgs false
theorem numTo_one {m : List Nat} (h0 : Sets.gt m 0 ≤ 0) : ∀ k, 0 < k → 1 ≤ (Sets.numTo m k).2 ∧ ((Sets.numTo m k).2 = 1 → ∀ i, 0 < i → i < k → Sets.gt m i < i)
 | 0, h => absurd h (by omega)
 | 1, _ => by
  have e : (Sets.numTo m 1).2 = 1 := by rw [Sets.numTo_new (by omega)]; rfl
  exact ⟨by omega, fun _ i h1 h2 => by omega⟩
 | k + 2, _ => by
  obtain ⟨a, b⟩ := numTo_one h0 (k + 1) (by omega)
  by_cases c : Sets.gt m (k + 1) < k + 1
  ·rw [Sets.numTo_old c]
   refine ⟨a, fun e i h1 h2 => ?_⟩
   rcases Nat.lt_or_eq_of_le (Nat.le_of_lt_succ h2) with q | rfl
   ·exact b e i h1 q
   ·exact c
  ·rw [Sets.numTo_new c]
   exact ⟨by omega, fun e => by omega⟩
theorem part_zero {n : Nat} {E : Nat → Nat → Prop} {m : List Nat} (h : Sets.Part n E m) (hone : (Sets.numTo m n).2 = 1) {i : Nat} (hi : i < n) : Sets.gt m i = 0 := by
 obtain ⟨_, b⟩ := numTo_one (h.le 0 (by omega)) n (by omega)
 have e := h.idem hi
 by_cases z : Sets.gt m i = 0
 ·exact z
 ·have := b hone (Sets.gt m i) (by omega) (h.lt hi)
  omega
theorem Conn_prop {E : Nat → Nat → Prop} {P : Nat → Prop} (hP : ∀ a b, E a b → (P a ↔ P b)) {a b : Nat} (h : Sets.Conn E a b) : P a → P b := by
 induction h with
 | refl => exact id
 | fwd _ e ih => exact fun x => (hP _ _ e).1 (ih x)
 | bwd _ e ih => exact fun x => (hP _ _ e).2 (ih x)
section
variable {n : Nat} {l : List Ed} {r : List (List Int)}
theorem frm_frs (hg : PureV.Good (n : Int) l) {h : Nat} (hh : h < 2 * l.length) : frm (toOf l) (h : Int) = gi (frs l) h := (from_to hg hh).1.symm
theorem tw_tw {h : Nat} (hh : h ≤ 8388608) : tw (tw (h : Int)) = h := by
 rw [tw_nat (by omega)]
 by_cases c : h % 2 = 0
 ·rw [if_pos c, tw_nat (by omega), if_neg (by omega)]; rfl
 ·rw [if_neg c, tw_nat (by omega), if_pos (by omega)]; omega
theorem one_part (h : IsMap n l r) (hp : parts n l = 1) (P : Nat → Prop) (hP : ∀ h : Nat, h < (nxOf l r).length → P (frm (toOf l) h).toNat → P (too (toOf l) h).toNat) : ∀ a b, a < n → b < n → P a → P b := by
 intro a b ha hb
 have hpt := Sets.joinAll_part n (ends l)
 have hone : (Sets.numTo (Sets.joinAll (List.range n) (ends l)) n).2 = 1 := by
  have := hp
  unfold parts comps_Of.out at this
  rw [Int.toNat_natCast] at this
  exact this
 have hc := (hpt.iff ha hb).1 (by rw [part_zero hpt hone ha, part_zero hpt hone hb])
 refine Conn_prop (fun u v hE => ?_) hc
 obtain ⟨hu, hv, hm⟩ := hE
 obtain ⟨i, hi, e⟩ := List.getElem_of_mem hm
 have hil : i < l.length := by rw [ends_length] at hi; exact hi
 have hpe : pe (ends l) i = ((u : Int), (v : Int)) := by
  rw [← e]
  unfold pe
  rw [List.getD_eq_getElem?_getD, List.getElem?_eq_getElem hi]; rfl
 have f1 := froms_even (ends l) i hi
 have t1 := Graph.tos_two (ends l) i hi
 rw [hpe] at f1 t1
 have k1 := hP (2 * i) (by rw [h.len]; omega)
 have k2 := hP (2 * i + 1) (by rw [h.len]; omega)
 rw [frm_frs h.good (by omega)] at k1 k2
 have g1 : gi (frs l) (2 * i) = (u : Int) := f1.1
 have g2 : gi (frs l) (2 * i + 1) = (v : Int) := f1.2
 have g3 : too (toOf l) ((2 * i : Nat) : Int) = (v : Int) := by unfold too; rw [Int.toNat_natCast]; exact t1.1
 have g4 : too (toOf l) ((2 * i + 1 : Nat) : Int) = (u : Int) := by unfold too; rw [Int.toNat_natCast]; exact t1.2
 rw [g1, g3, Int.toNat_natCast, Int.toNat_natCast] at k1
 rw [g2, g4, Int.toNat_natCast, Int.toNat_natCast] at k2
 exact ⟨k1, k2⟩
theorem web (h : IsMap n l r) (hp : parts n l = 1) : Web n (nxOf l r) (toOf l) := by
 have hlen := h.len
 have hll := h.good.2.2.1
 have hfl := frs_length l
 have hx := nxOf_next h.rot
 refine { toFit := h.fit, inv := fun x hh => tw_tw (by omega), fnext := fun x hh => ?_, around := fun x y hh hy e => ?_, conn := one_part h hp }
 ·obtain ⟨a, b, c⟩ := next_in h.rot hx (frs_in h.good) (show x < (frs l).length by omega)
  obtain ⟨y, hy⟩ := Int.eq_ofNat_of_zero_le a
  rw [frm_frs h.good (by omega), hy, frm_frs h.good (by omega)]
  rw [hy, Int.toNat_natCast] at c
  exact c
 ·obtain ⟨v, j, h1, h2, h3, h4⟩ := h.rot.place (frs_in h.good) (show x < (frs l).length by omega)
  obtain ⟨u, i, g1, g2, g3, g4⟩ := h.rot.place (frs_in h.good) (show y < (frs l).length by omega)
  rw [frm_frs h.good (by omega), frm_frs h.good (by omega), h2, g2] at e
  obtain rfl : v = u := by omega
  have hper := per_row h.rot hx h1 h3
  rw [h4] at hper
  refine ⟨(i + (gl r v).length - j) % (gl r v).length, ?_, ?_⟩
  ·rw [hper]; exact Nat.mod_lt _ (by omega)
  ·rw [← h4, it_at h.rot hx h1 h3, Nat.add_mod_mod, show j + (i + (gl r v).length - j) = i + (gl r v).length by omega, Nat.add_mod_right, Nat.mod_eq_of_lt g3, g4]
theorem half_one (hg : PureV.Good (n : Int) l) {x y : Nat} (hx : x < 2 * l.length) (hy : y < 2 * l.length) (h1 : frm (toOf l) (x : Int) = frm (toOf l) (y : Int)) (h2 : too (toOf l) (x : Int) = too (toOf l) (y : Int)) : x = y := by
 have sorted : ∀ d i, i + d + 1 < l.length → PureV.lt (PureV.rdE l (i : Nat)) (PureV.rdE l ((i + d + 1 : Nat) : Int)) := by
  intro d
  induction d with
  | zero =>
   intro i hi
   have := (hg.2.2.2 (i + 0 + 1) hi).2 (by omega)
   exact this
  | succ d ih =>
   intro i hi
   have a := ih i (by omega)
   have b := (hg.2.2.2 (i + d + 1 + 1) (by omega)).2 (by omega)
   rw [show i + d + 1 + 1 - 1 = i + d + 1 by omega] at b
   unfold PureV.lt at a b ⊢
   rw [show i + (d + 1) + 1 = i + d + 1 + 1 by omega]
   omega
 have two : ∀ i, i < l.length → (frm (toOf l) ((2 * i : Nat) : Int) = (PureV.rdE l (i : Nat)).f0 ∧ too (toOf l) ((2 * i : Nat) : Int) = (PureV.rdE l (i : Nat)).f1) ∧ (frm (toOf l) ((2 * i + 1 : Nat) : Int) = (PureV.rdE l (i : Nat)).f1 ∧ too (toOf l) ((2 * i + 1 : Nat) : Int) = (PureV.rdE l (i : Nat)).f0) := by
  intro i hi
  have t1 := Graph.tos_two (ends l) i (by rw [ends_length]; exact hi)
  rw [pe_ends hi] at t1
  refine ⟨⟨by rw [frm_frs hg (by omega), frs_even hi], ?_⟩, by rw [frm_frs hg (by omega), frs_odd hi], ?_⟩
  ·unfold too; rw [Int.toNat_natCast]; exact t1.1
  ·unfold too; rw [Int.toNat_natCast]; exact t1.2
 have same : ∀ i j, i < l.length → j < l.length → (PureV.rdE l (i : Nat)).f0 = (PureV.rdE l (j : Nat)).f0 → (PureV.rdE l (i : Nat)).f1 = (PureV.rdE l (j : Nat)).f1 → i = j := by
  intro i j hi hj e1 e2
  rcases Nat.lt_trichotomy i j with c | c | c
  ·have := sorted (j - i - 1) i (by omega)
   rw [show i + (j - i - 1) + 1 = j by omega] at this
   unfold PureV.lt at this; omega
  ·exact c
  ·have := sorted (i - j - 1) j (by omega)
   rw [show j + (i - j - 1) + 1 = i by omega] at this
   unfold PureV.lt at this; omega
 have ok : ∀ i, i < l.length → (PureV.rdE l (i : Nat)).f0 < (PureV.rdE l (i : Nat)).f1 := fun i hi => (hg.2.2.2 i hi).1.2.1
 have p1 := two (x / 2) (by omega)
 have p2 := two (y / 2) (by omega)
 have o1 := ok (x / 2) (by omega)
 have o2 := ok (y / 2) (by omega)
 rcases Nat.mod_two_eq_zero_or_one x with ex | ex <;> rcases Nat.mod_two_eq_zero_or_one y with ey | ey
 ·rw [show x = 2 * (x / 2) by omega, show y = 2 * (y / 2) by omega, p1.1.1, p2.1.1] at h1
  rw [show x = 2 * (x / 2) by omega, show y = 2 * (y / 2) by omega, p1.1.2, p2.1.2] at h2
  have := same _ _ (by omega) (by omega) h1 h2
  omega
 ·rw [show x = 2 * (x / 2) by omega, show y = 2 * (y / 2) + 1 by omega, p1.1.1, p2.2.1] at h1
  rw [show x = 2 * (x / 2) by omega, show y = 2 * (y / 2) + 1 by omega, p1.1.2, p2.2.2] at h2
  omega
 ·rw [show x = 2 * (x / 2) + 1 by omega, show y = 2 * (y / 2) by omega, p1.2.1, p2.1.1] at h1
  rw [show x = 2 * (x / 2) + 1 by omega, show y = 2 * (y / 2) by omega, p1.2.2, p2.1.2] at h2
  omega
 ·rw [show x = 2 * (x / 2) + 1 by omega, show y = 2 * (y / 2) + 1 by omega, p1.2.1, p2.2.1] at h1
  rw [show x = 2 * (x / 2) + 1 by omega, show y = 2 * (y / 2) + 1 by omega, p1.2.2, p2.2.2] at h2
  have := same _ _ (by omega) (by omega) h2 h1
  omega
end
end Go.Proofs.Yteeihjpnhjnknaa.Rot
namespace Go.Proofs.Yteeihjpnhjnknaa.Seen
open Go.RowKit Go.Proofs.YteeihjpnhjnknaaW.PrintWords Go.Proofs.Yteeihjpnhjnknaa.Mem
set_option linter.unusedVariables false
set_option linter.unusedSimpArgs false
def In (nx : List Int) (x : Int) : Prop := 0 ≤ x ∧ x < (nx.length : Int)
structure Aut (nx tos : List Int) (f : Int → Int) : Prop where
 map : ∀ x, In nx x → In nx (f x)
 next : ∀ x, In nx x → f (gi nx x.toNat) = gi nx (f x).toNat
 twin : ∀ x, In nx x → f (tw x) = tw (f x)
 inj : ∀ x y, In nx x → In nx y → f x = f y → x = y
def Simple (nx tos : List Int) : Prop := ∀ x y : Nat, x < nx.length → y < nx.length → frm tos x = frm tos y → too tos x = too tos y → x = y
section
variable {n : Nat} {nx tos : List Int} {f g : Int → Int}
theorem In.nat {x : Int} (h : In nx x) : ∃ k : Nat, x = k ∧ k < nx.length := by
 obtain ⟨k, rfl⟩ := Int.eq_ofNat_of_zero_le h.1
 exact ⟨k, rfl, by have := h.2; omega⟩
theorem In.next (hw : Web n nx tos) {x : Int} (h : In nx x) : In nx (gi nx x.toNat) := by
 obtain ⟨k, rfl, hk⟩ := h.nat
 exact hw.hnx k hk
theorem In.twin (hw : Web n nx tos) {x : Int} (h : In nx x) : In nx (tw x) := by
 obtain ⟨k, rfl, hk⟩ := h.nat
 exact hw.htw k hk
theorem In.it (hw : Web n nx tos) {x : Int} (h : In nx x) : ∀ j, In nx (it nx x j) := it_in hw.toFit h.1 h.2
theorem Web.tt (hw : Web n nx tos) {x : Int} (h : In nx x) : tw (tw x) = x := by
 obtain ⟨k, rfl, hk⟩ := h.nat
 exact hw.inv k hk
theorem Web.fr (hw : Web n nx tos) {x : Int} (h : In nx x) : 0 ≤ frm tos x ∧ frm tos x < (n : Int) := by
 obtain ⟨a, b⟩ := h.twin hw
 exact hw.htos _ (by omega)
theorem Web.to (hw : Web n nx tos) {x : Int} (h : In nx x) : 0 ≤ too tos x ∧ too tos x < (n : Int) := by
 obtain ⟨a, b⟩ := h
 exact hw.htos _ (by omega)
theorem Web.ft (hw : Web n nx tos) {x : Int} (h : In nx x) : frm tos (tw x) = too tos x := by
 unfold frm too; rw [hw.tt h]
theorem Web.fit' (hw : Web n nx tos) {x : Int} (h : In nx x) : ∀ j, frm tos (Seen.it nx x j) = frm tos x
 | 0 => rfl
 | j + 1 => by
  obtain ⟨k, e, hk⟩ := (h.it hw j).nat
  show frm tos (gi nx (Seen.it nx x j).toNat) = _
  rw [← hw.fit' h j, e, Int.toNat_natCast]
  exact hw.fnext k hk
theorem Web.arnd (hw : Web n nx tos) {x y : Int} (hx : In nx x) (hy : In nx y) (e : frm tos x = frm tos y) : ∃ j, j < per nx x ∧ Seen.it nx x j = y := by
 obtain ⟨k, rfl, hk⟩ := hx.nat
 obtain ⟨i, rfl, hi⟩ := hy.nat
 exact hw.around k i hk hi e
theorem Aut.it (hw : Web n nx tos) (h : Aut nx tos f) {x : Int} (hx : In nx x) : ∀ j, f (it nx x j) = it nx (f x) j
 | 0 => rfl
 | j + 1 => by
  show f (gi nx (Seen.it nx x j).toNat) = gi nx (Seen.it nx (f x) j).toNat
  rw [h.next _ (hx.it hw j), Aut.it hw h hx j]
theorem Aut.frm_iff (hw : Web n nx tos) (h : Aut nx tos f) {x y : Int} (hx : In nx x) (hy : In nx y) : frm tos (f x) = frm tos (f y) ↔ frm tos x = frm tos y := by
 constructor
 ·intro e
  obtain ⟨j, _, hj⟩ := hw.arnd (h.map x hx) (h.map y hy) e
  rw [← h.it hw hx] at hj
  rw [← h.inj _ _ (hx.it hw j) hy hj, hw.fit' hx]
 ·intro e
  obtain ⟨j, _, hj⟩ := hw.arnd hx hy e
  rw [← hj, h.it hw hx, hw.fit' (h.map x hx)]
theorem Aut.to (hw : Web n nx tos) (h : Aut nx tos f) {x : Int} (hx : In nx x) : too tos (f x) = frm tos (f (tw x)) := by
 rw [h.twin x hx, hw.ft (h.map x hx)]
theorem Aut.per (hw : Web n nx tos) (h : Aut nx tos f) {x : Int} (hx : In nx x) : per nx (f x) = per nx x := by
 unfold Seen.per
 have e : (fun j => Seen.it nx (f x) (j + 1) == f x) = fun j => Seen.it nx x (j + 1) == x := by
  funext j
  rw [← h.it hw hx, Bool.eq_iff_iff, beq_iff_eq, beq_iff_eq]
  exact ⟨fun q => h.inj _ _ (hx.it hw _) hx q, fun q => by rw [q]⟩
 rw [e]
theorem Aut.eq (hw : Web n nx tos) (hf : Aut nx tos f) (hg : Aut nx tos g) {y : Int} (hy : In nx y) (e : f y = g y) : ∀ x, In nx x → f x = g x := by
 have same : ∀ x z, In nx x → In nx z → f x = g x → frm tos z = frm tos x → f z = g z := by
  intro x z hx hz e1 e2
  obtain ⟨j, _, hj⟩ := hw.arnd hx hz e2.symm
  rw [← hj, hf.it hw hx, hg.it hw hx, e1]
 have key := hw.conn (fun v => ∀ x, In nx x → frm tos x = (v : Int) → f x = g x) (fun h hh hP z hz ez => by
  have hI : In nx (h : Int) := ⟨by omega, by omega⟩
  have h1 := hw.fr hI
  have h2 := hw.to hI
  have e1 := hP h hI (by omega)
  have e2 : f (tw (h : Int)) = g (tw (h : Int)) := by rw [hf.twin _ hI, hg.twin _ hI, e1]
  refine same (tw (h : Int)) z (hI.twin hw) hz e2 ?_
  rw [hw.ft hI, ez]; omega)
 intro x hx
 have h1 := hw.fr hx
 have h2 := hw.fr hy
 refine key (frm tos y).toNat (frm tos x).toNat (by omega) (by omega) (fun z hz ez => ?_) x hx (by omega)
 exact same y z hy hz e (by omega)
structure Sim (nx tos : List Int) (f : Int → Int) (s t : St) : Prop where
 ent : t.ent = s.ent.map f
 cd : t.cd = s.cd
 ord : t.ord.length = s.ord.length
 num : ∀ x, In nx x → gi t.num (frm tos (f x)).toNat = gi s.num (frm tos x).toNat
theorem Sim.step (hw : Web n nx tos) (h : Aut nx tos f) {s t : St} (k : Sim nx tos f s t) (os : Ok n nx.length s) (ot : Ok n nx.length t) {q : Int} (hq : In nx q) : Sim nx tos f (stepH tos s q) (stepH tos t (f q)) := by
 have e1 : gi tos q.toNat = frm tos (tw q) := (hw.ft hq).symm
 have e2 : gi tos (f q).toNat = frm tos (f (tw q)) := h.to hw hq
 have e3 := k.num _ (hq.twin hw)
 have b1 := hw.fr (hq.twin hw)
 have b2 := hw.fr (h.map _ (hq.twin hw))
 unfold stepH
 rw [e1, e2, e3]
 by_cases c : gi s.num (frm tos (tw q)).toNat < 0
 ·rw [if_pos c, if_pos c]
  refine ⟨?_, ?_, ?_, fun x hx => ?_⟩
  ·show t.ent ++ [tw (f q)] = (s.ent ++ [tw q]).map f
   rw [k.ent, List.map_append, List.map_singleton, h.twin q hq]
  ·show t.cd ++ [(t.ord.length : Int)] = s.cd ++ [(s.ord.length : Int)]
   rw [k.cd, k.ord]
  ·show (t.ord ++ [_]).length = (s.ord ++ [_]).length
   simp [k.ord]
  ·show gi (t.num.set _ _) _ = gi (s.num.set _ _) _
   have b3 := hw.fr hx
   have b4 := hw.fr (h.map _ hx)
   rw [gi_set, gi_set, k.num x hx, k.ord, os.num, ot.num]
   have := h.frm_iff hw (hq.twin hw) hx
   by_cases e : frm tos (tw q) = frm tos x
   ·rw [if_pos ⟨by rw [this.2 e], by omega⟩, if_pos ⟨by rw [e], by omega⟩]
   ·rw [if_neg (fun w => e (this.1 (by have := w.1; omega))), if_neg (fun w => e (by have := w.1; omega))]
 ·rw [if_neg c, if_neg c]
  exact ⟨k.ent, by show t.cd ++ _ = s.cd ++ _; rw [k.cd], k.ord, k.num⟩
theorem Sim.turn (hw : Web n nx tos) (h : Aut nx tos f) {s t : St} (k : Sim nx tos f s t) (os : Ok n nx.length s) (ot : Ok n nx.length t) {q : Int} (hq : In nx q) : ∀ j, Sim nx tos f (turn nx tos s q j) (turn nx tos t (f q) j)
 | 0 => k
 | j + 1 => by
  have ih := Sim.turn hw h k os ot hq j
  show Sim nx tos f (stepH tos (Seen.turn nx tos s q j) (Seen.it nx q j)) (stepH tos (Seen.turn nx tos t (f q) j) (Seen.it nx (f q) j))
  rw [← h.it hw hq]
  have hf := h.map q hq
  exact ih.step hw h (os.turn hw.toFit hq.1 hq.2 j) (ot.turn hw.toFit hf.1 hf.2 j) (hq.it hw j)
theorem Sim.vert (hw : Web n nx tos) (h : Aut nx tos f) {s t : St} (k : Sim nx tos f s t) (os : Ok n nx.length s) (ot : Ok n nx.length t) {q : Int} (hq : In nx q) : Sim nx tos f (vert nx tos s q) (vert nx tos t (f q)) := by
 have k0 : Sim nx tos f { s with cd := [] } { t with cd := [] } := ⟨k.ent, rfl, k.ord, k.num⟩
 have key := k0.turn hw h (os.cd []) (ot.cd []) hq (Seen.per nx q)
 have e : Seen.vert nx tos t (f q) = { Seen.turn nx tos { t with cd := [] } (f q) (Seen.per nx q) with cd := t.cd ++ ((Seen.per nx q : Nat) : Int) :: (Seen.turn nx tos { t with cd := [] } (f q) (Seen.per nx q)).cd } := by
  unfold Seen.vert
  rw [h.per hw hq]
 rw [e]
 refine ⟨key.ent, ?_, key.ord, key.num⟩
 show t.cd ++ _ :: _ = s.cd ++ _ :: _
 rw [k.cd, key.cd]
theorem Sim.upto (hw : Web n nx tos) (h : Aut nx tos f) {s t : St} (k : Sim nx tos f s t) (os : Ok n nx.length s) (ot : Ok n nx.length t) : ∀ j, Sim nx tos f (upto nx tos s j) (upto nx tos t j)
 | 0 => k
 | j + 1 => by
  have ih := Sim.upto hw h k os ot j
  have hl : (Seen.upto nx tos t j).ent.length = (Seen.upto nx tos s j).ent.length := by rw [ih.ent, List.length_map]
  have o1 := os.upto hw.toFit j
  have o2 := ot.upto hw.toFit j
  by_cases c : j < (Seen.upto nx tos s j).ent.length
  ·have c2 : j < (Seen.upto nx tos t j).ent.length := by rw [hl]; exact c
   rw [upto_go c, upto_go c2]
   have e : gi (Seen.upto nx tos t j).ent j = f (gi (Seen.upto nx tos s j).ent j) := by
    rw [ih.ent]
    unfold gi
    rw [List.getD_eq_getElem?_getD, List.getD_eq_getElem?_getD, List.getElem?_map, List.getElem?_eq_getElem c]
    rfl
   rw [e]
   exact ih.vert hw h o1 o2 (o1.inE j c)
  ·have e1 : Seen.upto nx tos s (j + 1) = Seen.upto nx tos s j := by rw [Seen.upto, if_neg c]
   have e2 : Seen.upto nx tos t (j + 1) = Seen.upto nx tos t j := by rw [Seen.upto, if_neg (by rw [hl]; exact c)]
   rw [e1, e2]; exact ih
theorem Aut.code (hw : Web n nx tos) (h : Aut nx tos f) {y : Int} (hy : In nx y) : (all n nx tos (f y)).cd = (all n nx tos y).cd := by
 have b1 := hw.fr hy
 have b2 := hw.fr (h.map y hy)
 have hf := h.map y hy
 have k : Sim nx tos f (start n tos y (frm tos y)) (start n tos (f y) (frm tos (f y))) := by
  unfold start
  refine ⟨List.map_singleton.symm, rfl, by simp only [List.length_singleton], fun x hx => ?_⟩
  show gi ((List.replicate n (-1)).set _ 0) _ = gi ((List.replicate n (-1)).set _ 0) _
  have b3 := hw.fr hx
  have b4 := hw.fr (h.map _ hx)
  have := h.frm_iff hw hy hx
  have hr : ∀ v : Nat, v < n → gi (List.replicate n (-1)) v = -1 := fun v hv => by
   unfold gi
   rw [List.getD_eq_getElem?_getD, List.getElem?_replicate, if_pos hv]; rfl
  rw [gi_set, gi_set, hr _ (by omega), hr _ (by omega)]
  by_cases e : frm tos y = frm tos x
  ·rw [if_pos ⟨by rw [this.2 e], by simp; omega⟩, if_pos ⟨by rw [e], by simp; omega⟩]
  ·rw [if_neg (fun w => e (this.1 (by have := w.1; omega))), if_neg (fun w => e (by have := w.1; omega))]
 exact (k.upto hw h (Ok.start hy b1) (Ok.start hf b2) n).cd
end
end Go.Proofs.Yteeihjpnhjnknaa.Seen
namespace Go.Proofs.Yteeihjpnhjnknaa.Seen
open Go.RowKit Go.Proofs.YteeihjpnhjnknaaW.PrintWords Go.Proofs.Yteeihjpnhjnknaa.Mem
set_option linter.unusedVariables false
set_option linter.unusedSimpArgs false
section
variable {n : Nat} {nx tos : List Int}
def psi (F G : St) (v : Int) : Int := gi G.ord (gi F.num v.toNat).toNat
theorem iso (hw : Web n nx tos) (hs : Simple nx tos) {g h : Nat} (hg : g < nx.length) (hh : h < nx.length) (e : (all n nx tos (g : Int)).cd = (all n nx tos (h : Int)).cd) : ∃ f, Aut nx tos f ∧ f (g : Int) = (h : Int) := by
 obtain ⟨F, hF⟩ : ∃ F, F = all n nx tos (g : Int) := ⟨_, rfl⟩
 obtain ⟨G, hG⟩ : ∃ G, G = all n nx tos (h : Int) := ⟨_, rfl⟩
 have FF : Full n nx tos (g : Int) F := by rw [hF]; exact full hw hg
 have GG : Full n nx tos (h : Int) G := by rw [hG]; exact full hw hh
 rw [← hF, ← hG] at e
 clear hF hG
 obtain ⟨_, hrow⟩ := full_rows FF GG e
 have hper : ∀ i, i < n → per nx (gi F.ent i) = per nx (gi G.ent i) := fun i hi => by
  have := congrArg List.length (hrow i hi)
  rw [rowF_length, rowF_length] at this; exact this
 have ent_frm : ∀ i, i < n → frm tos (gi F.ent i) = gi F.ord i ∧ frm tos (gi G.ent i) = gi G.ord i := fun i hi => ⟨FF.inv.c i (by rw [FF.ent]; exact hi), GG.inv.c i (by rw [GG.ent]; exact hi)⟩
 have numF : ∀ v : Nat, v < n → ∃ i, i < n ∧ gi F.num v = (i : Int) ∧ gi F.ord i = (v : Int) := fun v hv => by
  obtain ⟨i, i1, i2, i3⟩ := FF.inv.b v hv (FF.pos v hv)
  exact ⟨i, by rw [FF.ord] at i1; exact i1, i2, i3⟩
 have numG : ∀ v : Nat, v < n → ∃ i, i < n ∧ gi G.num v = (i : Int) ∧ gi G.ord i = (v : Int) := fun v hv => by
  obtain ⟨i, i1, i2, i3⟩ := GG.inv.b v hv (GG.pos v hv)
  exact ⟨i, by rw [GG.ord] at i1; exact i1, i2, i3⟩
 have psi_ord : ∀ i, i < n → psi F G (gi F.ord i) = gi G.ord i := fun i hi => by
  unfold psi
  rw [FF.inv.a i (by rw [FF.ord]; exact hi), Int.toNat_natCast]
 have psi_inj : ∀ a b : Int, 0 ≤ a → a < n → 0 ≤ b → b < n → psi F G a = psi F G b → a = b := by
  intro a b a0 a1 b0 b1 q
  obtain ⟨a, rfl⟩ := Int.eq_ofNat_of_zero_le a0
  obtain ⟨b, rfl⟩ := Int.eq_ofNat_of_zero_le b0
  obtain ⟨i, i1, i2, i3⟩ := numF a (by omega)
  obtain ⟨j, j1, j2, j3⟩ := numF b (by omega)
  rw [← i3, ← j3, psi_ord i i1, psi_ord j j1] at q
  rw [← i3, ← j3, full_inj GG i1 j1 q]
 have place : ∀ i, i < n → ∀ j, j < per nx (gi F.ent i) → frm tos (it nx (gi G.ent i) j) = psi F G (frm tos (it nx (gi F.ent i) j)) ∧ too tos (it nx (gi G.ent i) j) = psi F G (too tos (it nx (gi F.ent i) j)) := by
  intro i hi j hj
  have iF : In nx (gi F.ent i) := FF.inE i hi
  have iG : In nx (gi G.ent i) := GG.inE i hi
  refine ⟨by rw [hw.fit' iG, hw.fit' iF, (ent_frm i hi).1, (ent_frm i hi).2, psi_ord i hi], ?_⟩
  have := congrArg (fun x => gi x j) (hrow i hi)
  have hr : ∀ (F : St) (q : Int), j < per nx q → gi (rowF nx tos F q) j = gi F.num (too tos (it nx q j)).toNat := fun F q hq => by
   unfold rowF rowTo gi
   rw [List.getD_eq_getElem?_getD, List.getElem?_map, List.getElem?_range hq]; rfl
  rw [hr F _ hj, hr G _ (by rw [← hper i hi]; exact hj)] at this
  have t1 := hw.to (iF.it hw j)
  have t2 := hw.to (iG.it hw j)
  obtain ⟨k, k1, k2, k3⟩ := numG (too tos (it nx (gi G.ent i) j)).toNat (by omega)
  unfold psi
  rw [this, k2, Int.toNat_natCast, k3]
  omega
 have places : ∀ x, In nx x → ∃ i j, i < n ∧ j < per nx (gi F.ent i) ∧ it nx (gi F.ent i) j = x := by
  intro x hx
  have b := hw.fr hx
  obtain ⟨i, i1, i2, i3⟩ := numF (frm tos x).toNat (by omega)
  have iF : In nx (gi F.ent i) := FF.inE i i1
  obtain ⟨j, j1, j2⟩ := hw.arnd iF hx (by rw [(ent_frm i i1).1, i3]; omega)
  exact ⟨i, j, i1, j1, j2⟩
 have uniq : ∀ x y, In nx x → In nx y → frm tos x = frm tos y → too tos x = too tos y → x = y := by
  intro x y hx hy e1 e2
  obtain ⟨a, rfl, ha⟩ := hx.nat
  obtain ⟨b, rfl, hb⟩ := hy.nat
  rw [hs a b ha hb e1 e2]
 have img : ∀ x, ∃ y, In nx x → In nx y ∧ frm tos y = psi F G (frm tos x) ∧ too tos y = psi F G (too tos x) := by
  intro x
  by_cases hx : In nx x
  ·obtain ⟨i, j, i1, j1, rfl⟩ := places x hx
   have iG : In nx (gi G.ent i) := GG.inE i i1
   exact ⟨it nx (gi G.ent i) j, fun _ => ⟨iG.it hw j, place i i1 j j1⟩⟩
  ·exact ⟨0, fun q => absurd q hx⟩
 obtain ⟨f, hf⟩ := Classical.axiomOfChoice img
 have fpl : ∀ i, i < n → ∀ j, j < per nx (gi F.ent i) → f (it nx (gi F.ent i) j) = it nx (gi G.ent i) j := by
  intro i hi j hj
  have iF : In nx (gi F.ent i) := FF.inE i hi
  have iG : In nx (gi G.ent i) := GG.inE i hi
  obtain ⟨a, b, c⟩ := hf _ (iF.it hw j)
  obtain ⟨d1, d2⟩ := place i hi j hj
  exact uniq _ _ a (iG.it hw j) (by rw [b, d1]) (by rw [c, d2])
 refine ⟨f, ⟨fun x hx => (hf x hx).1, fun x hx => ?_, fun x hx => ?_, fun x y hx hy q => ?_⟩, ?_⟩
 ·obtain ⟨i, j, i1, j1, rfl⟩ := places x hx
  have iF : In nx (gi F.ent i) := FF.inE i i1
  have iG : In nx (gi G.ent i) := GG.inE i i1
  have pF : 0 < per nx (gi F.ent i) := by omega
  rw [fpl i i1 j j1]
  show f (it nx (gi F.ent i) (j + 1)) = it nx (gi G.ent i) (j + 1)
  by_cases c : j + 1 < per nx (gi F.ent i)
  ·exact fpl i i1 (j + 1) c
  ·have c2 : j + 1 = per nx (gi F.ent i) := by omega
   have e1 := (per_spec pF).1
   have e2 := (per_spec (nx := nx) (h := gi G.ent i) (by rw [← hper i i1]; exact pF)).1
   rw [← c2] at e1
   rw [← hper i i1, ← c2] at e2
   rw [e1, e2]
   exact fpl i i1 0 pF
 ·obtain ⟨a, b, c⟩ := hf x hx
  obtain ⟨a2, b2, c2⟩ := hf _ (hx.twin hw)
  refine uniq _ _ a2 (a.twin hw) ?_ ?_
  ·rw [b2, hw.ft hx, hw.ft a, c]
  ·have e1 : too tos (tw x) = frm tos x := rfl
   have e2 : too tos (tw (f x)) = frm tos (f x) := rfl
   rw [c2, e1, e2, b]
 ·obtain ⟨a, b, c⟩ := hf x hx
  obtain ⟨a2, b2, c2⟩ := hf y hy
  have f1 := hw.fr hx
  have f2 := hw.fr hy
  have t1 := hw.to hx
  have t2 := hw.to hy
  exact uniq x y hx hy (psi_inj _ _ f1.1 f1.2 f2.1 f2.2 (by rw [← b, ← b2, q])) (psi_inj _ _ t1.1 t1.2 t2.1 t2.2 (by rw [← c, ← c2, q]))
 ·have p0 : 0 < per nx (gi F.ent 0) := by rw [FF.root.2]; exact hw.hper g hg
  have := fpl 0 FF.root.1 0 p0
  have e1 : it nx (gi F.ent 0) 0 = gi F.ent 0 := rfl
  have e2 : it nx (gi G.ent 0) 0 = gi G.ent 0 := rfl
  rw [e1, e2, FF.root.2, GG.root.2] at this
  exact this
def cls (n : Nat) (nx tos : List Int) (x : Nat) : List Nat := (List.range nx.length).filter fun y => decide ((all n nx tos (y : Int)).cd = (all n nx tos (x : Int)).cd)
theorem mem_cls {x y : Nat} : y ∈ cls n nx tos x ↔ y < nx.length ∧ (all n nx tos (y : Int)).cd = (all n nx tos (x : Int)).cd := by
 unfold cls
 rw [List.mem_filter, List.mem_range, decide_eq_true_eq]
theorem cls_nodup (x : Nat) : (cls n nx tos x).Nodup := List.Pairwise.filter _ List.nodup_range
theorem inj_le : ∀ (l m : List Nat) (t : Nat → Nat), l.Nodup → (∀ x ∈ l, t x ∈ m) → (∀ x ∈ l, ∀ y ∈ l, t x = t y → x = y) → l.length ≤ m.length
 | [], m, _, _, _, _ => Nat.zero_le _
 | a :: l, m, t, hn, hs, hi => by
  rw [List.nodup_cons] at hn
  have ha := hs a (List.mem_cons_self ..)
  have h := inj_le l (m.erase (t a)) t hn.2 (fun x hx => (List.mem_erase_of_ne (fun e => hn.1 (by rw [← hi x (List.mem_cons_of_mem _ hx) a (List.mem_cons_self ..) e]; exact hx))).2 (hs x (List.mem_cons_of_mem _ hx))) (fun x hx y hy => hi x (List.mem_cons_of_mem _ hx) y (List.mem_cons_of_mem _ hy))
  rw [List.length_erase_of_mem ha] at h
  have := List.length_pos_of_mem ha
  simp; omega
theorem cls_le (hw : Web n nx tos) (hs : Simple nx tos) {g x : Nat} (hg : g < nx.length) (hx : x < nx.length) : (cls n nx tos g).length ≤ (cls n nx tos x).length := by
 have hgI : In nx (g : Int) := ⟨by omega, by omega⟩
 have hxI : In nx (x : Int) := ⟨by omega, by omega⟩
 have img : ∀ h, ∃ f, h ∈ cls n nx tos g → Aut nx tos f ∧ f (g : Int) = (h : Int) := by
  intro h
  by_cases hh : h ∈ cls n nx tos g
  ·obtain ⟨h1, h2⟩ := mem_cls.1 hh
   obtain ⟨f, f1, f2⟩ := iso hw hs hg h1 h2.symm
   exact ⟨f, fun _ => ⟨f1, f2⟩⟩
  ·exact ⟨id, fun q => absurd q hh⟩
 obtain ⟨F, hF⟩ := Classical.axiomOfChoice img
 refine inj_le (cls n nx tos g) (cls n nx tos x) (fun h => (F h (x : Int)).toNat) (cls_nodup g) (fun h hh => ?_) (fun h hh k hk e => ?_)
 ·obtain ⟨f1, f2⟩ := hF h hh
  have m := f1.map _ hxI
  have c := f1.code hw hxI
  rw [mem_cls]
  have e : (((F h (x : Int)).toNat : Nat) : Int) = F h (x : Int) := Int.toNat_of_nonneg m.1
  rw [e]
  exact ⟨by have := m.2; have := m.1; omega, c⟩
 ·obtain ⟨f1, f2⟩ := hF h hh
  obtain ⟨k1, k2⟩ := hF k hk
  have m1 := f1.map _ hxI
  have m2 := k1.map _ hxI
  have e2 : F h (x : Int) = F k (x : Int) := by
   have := m1.1; have := m2.1
   omega
  have := f1.eq hw k1 hxI e2 _ hgI
  rw [f2, k2] at this
  omega
theorem filter_two {α : Type} (p : α → Bool) : ∀ l : List α, (l.filter p).length + (l.filter fun y => !p y).length = l.length
 | [] => rfl
 | a :: l => by
  have ih := filter_two p l
  cases h : p a
  ·rw [List.filter_cons_of_neg (by rw [h]; decide), List.filter_cons_of_pos (by rw [h]; rfl)]; simp only [List.length_cons]; omega
  ·rw [List.filter_cons_of_pos h, List.filter_cons_of_neg (by rw [h]; decide)]; simp only [List.length_cons]; omega
theorem parts_dvd {α β : Type} [DecidableEq β] (c : α → β) (k : Nat) : ∀ (N : Nat) (l : List α), l.length ≤ N → (∀ x ∈ l, (l.filter fun y => decide (c y = c x)).length = k) → k ∣ l.length
 | 0, l, hl, _ => by
  have : l.length = 0 := by omega
  rw [this]; exact Nat.dvd_zero k
 | N + 1, [], _, _ => Nat.dvd_zero k
 | N + 1, x :: t, hl, h => by
  have hx := h x (List.mem_cons_self ..)
  obtain ⟨l, hl2⟩ : ∃ l, l = x :: t := ⟨_, rfl⟩
  rw [← hl2] at hl h hx ⊢
  have hsum : (l.filter fun y => decide (c y = c x)).length + (l.filter fun y => !decide (c y = c x)).length = l.length := filter_two _ l
  have hpos : 0 < (l.filter fun y => decide (c y = c x)).length := List.length_pos_of_mem (List.mem_filter.2 ⟨by rw [hl2]; exact List.mem_cons_self .., by simp⟩)
  have ih := parts_dvd c k N (l.filter fun y => !decide (c y = c x)) (by omega) (fun y hy => by
   obtain ⟨y1, y2⟩ := List.mem_filter.1 hy
   rw [List.filter_filter, ← h y y1]
   congr 1
   refine List.filter_congr (fun z hz => ?_)
   by_cases q : c z = c y
   ·have : c y ≠ c x := by simpa using y2
    simp [q, this]
   ·simp [q])
  rw [← hsum, hx]
  exact Nat.dvd_add (Nat.dvd_refl k) ih
theorem cls_dvd (hw : Web n nx tos) (hs : Simple nx tos) {g : Nat} (hg : g < nx.length) : (cls n nx tos g).length ∣ nx.length := by
 have h := parts_dvd (fun y : Nat => (all n nx tos (y : Int)).cd) (cls n nx tos g).length nx.length (List.range nx.length) (by simp) (fun x hx => by
  have hx := List.mem_range.1 hx
  exact Nat.le_antisymm (cls_le hw hs hx hg) (cls_le hw hs hg hx))
 rw [List.length_range] at h
 exact h
end
end Go.Proofs.Yteeihjpnhjnknaa.Seen
namespace Go.Proofs.Yteeihjpnhjnknaa.Seen
open Go.RowKit Go.Proofs.YteeihjpnhjnknaaW.PrintWords Go.Proofs.Yteeihjpnhjnknaa.Mem
set_option linter.unusedVariables false
set_option linter.unusedSimpArgs false
section
variable {n : Nat} {nx tos : List Int}
theorem it_add (nx : List Int) (x : Int) (a : Nat) : ∀ d, it nx x (a + d) = it nx (it nx x a) d
 | 0 => rfl
 | d + 1 => by
  show gi nx (it nx x (a + d)).toNat = gi nx (it nx (it nx x a) d).toNat
  rw [it_add nx x a d]
theorem it_inj {x : Int} (hp : 0 < per nx x) {i j : Nat} (hi : i < per nx x) (hj : j < per nx x) (e : it nx x i = it nx x j) : i = j := by
 obtain ⟨h1, h2⟩ := per_spec hp
 have key : ∀ i j, i < j → j < per nx x → it nx x i ≠ it nx x j := fun i j hij hj e => by
  have a := it_add nx x i (per nx x - j)
  have b := it_add nx x j (per nx x - j)
  rw [e, ← b, show j + (per nx x - j) = per nx x by omega, h1] at a
  exact h2 (i + (per nx x - j)) (by omega) (by omega) a
 rcases Nat.lt_trichotomy i j with q | q | q
 ·exact absurd e (key i j q hj)
 ·exact q
 ·exact absurd e.symm (key j i q hi)
theorem sub_le {α : Type} [DecidableEq α] : ∀ (l m : List α), l.Nodup → (∀ x ∈ l, x ∈ m) → l.length ≤ m.length
 | [], m, _, _ => Nat.zero_le _
 | a :: l, m, hn, hs => by
  rw [List.nodup_cons] at hn
  have ha : a ∈ m := hs a (List.mem_cons_self ..)
  have h := sub_le l (m.erase a) hn.2 (fun x hx => (List.mem_erase_of_ne (fun e => hn.1 (by rw [← e]; exact hx))).2 (hs x (List.mem_cons_of_mem _ hx)))
  rw [List.length_erase_of_mem ha] at h
  have := List.length_pos_of_mem ha
  simp; omega
end
end Go.Proofs.Yteeihjpnhjnknaa.Seen
namespace Go.Proofs.Yteeihjpnhjnknaa.Rot
open Go.RowKit Go.Proofs.YteeihjpnhjnknaaW.PrintWords Go.Proofs.Yteeihjpnhjnknaa.Mem Go.Proofs.Yteeihjpnhjnknaa.Seen
set_option linter.unusedVariables false
set_option linter.unusedSimpArgs false
def hits (C : Nat → List Int) (c : List Int) (j : Nat) : Nat := ((List.range j).filter fun h => decide (C h = c)).length
theorem hits_succ (C : Nat → List Int) (c : List Int) (j : Nat) : hits C c (j + 1) = hits C c j + if C j = c then 1 else 0 := by
 unfold hits
 rw [List.range_succ, List.filter_append, List.length_append]
 congr 1
 by_cases h : C j = c
 ·rw [if_pos h]; simp [h]
 ·rw [if_neg h]; simp [h]
theorem hits_none {C : Nat → List Int} {c : List Int} : ∀ j, (∀ h, h < j → C h ≠ c) → hits C c j = 0
 | 0, _ => rfl
 | j + 1, h => by rw [hits_succ, hits_none j (fun i hi => h i (by omega)), if_neg (h j (by omega))]
theorem bst_spec (C : Nat → List Int) : ∀ j, (∀ h, h ≤ j → ltB (C h) (C (bst C j).1) = false) ∧ (bst C j).2 = hits C (C (bst C j).1) (j + 1)
 | 0 => ⟨fun h hh => by obtain rfl : h = 0 := by omega
                        exact ltB_self _, by rw [hits_succ]; simp [bst, hits]⟩
 | j + 1 => by
   obtain ⟨a, b⟩ := bst_spec C j
   unfold bst
   by_cases q1 : ltB (C (j + 1)) (C (bst C j).1) = true
   · rw [if_pos q1]
     have key : ∀ h, h ≤ j → ltB (C h) (C (j + 1)) = false := fun h hh => by
       cases q : ltB (C h) (C (j + 1)) with
       | false => rfl
       | true => rw [← a h hh]; exact (ltB_trans _ _ _ q q1).symm
     refine ⟨fun h hh => ?_, ?_⟩
     · rcases Nat.lt_or_eq_of_le hh with w | rfl
       · exact key h (by omega)
       · exact ltB_self _
     · show 1 = hits C (C (j + 1)) (j + 1 + 1)
       rw [hits_succ, if_pos rfl, hits_none (j + 1) (fun h hh e => by
         have := a h (by omega)
         rw [e, q1] at this; cases this)]
   · rw [if_neg q1]
     by_cases q2 : ltB (C (bst C j).1) (C (j + 1)) = true
     · rw [if_pos q2]
       refine ⟨fun h hh => ?_, ?_⟩
       · rcases Nat.lt_or_eq_of_le hh with w | rfl
         · exact a h (by omega)
         · simpa using q1
       · rw [hits_succ, if_neg (fun e => by rw [e, ltB_self] at q2; cases q2), Nat.add_zero]; exact b
     · rw [if_neg q2]
       have e : C (j + 1) = C (bst C j).1 := ltB_eq _ _ (by simpa using q1) (by simpa using q2)
       refine ⟨fun h hh => ?_, ?_⟩
       · rcases Nat.lt_or_eq_of_le hh with w | rfl
         · exact a h (by omega)
         · simpa using q1
       · show (bst C j).2 + 1 = hits C (C (bst C j).1) (j + 1 + 1)
         rw [hits_succ, if_pos e, b]
section
variable {n : Nat} {l : List Ed} {r : List (List Int)}
theorem simple (h : IsMap n l r) : Simple (nxOf l r) (toOf l) := fun x y hx hy => half_one h.good (by rw [h.len] at hx; exact hx) (by rw [h.len] at hy; exact hy)
theorem turns_dvd (h : IsMap n l r) (hp : parts n l = 1) (h0 : 0 < l.length) : 0 < (bestOf n l r).2 ∧ (bestOf n l r).2 ∣ 2 * l.length ∧ (bestOf n l r).2 = hits (codes n l r) (codes n l r (bestOf n l r).1) (2 * l.length) ∧ ∀ x, x < 2 * l.length → ltB (codes n l r x) (codes n l r (bestOf n l r).1) = false := by
 obtain ⟨a, b⟩ := bst_spec (codes n l r) (2 * l.length - 1)
 have hb := (bst_le (codes n l r) (2 * l.length - 1)).1
 rw [show 2 * l.length - 1 + 1 = 2 * l.length by omega] at b
 have hd := cls_dvd (web h hp) (simple h) (g := (bestOf n l r).1) (by rw [h.len]; unfold bestOf; omega)
 have e : (cls n (nxOf l r) (toOf l) (bestOf n l r).1).length = (bestOf n l r).2 := by
  show ((List.range (nxOf l r).length).filter _).length = _
  rw [h.len]
  exact b.symm
 rw [e, h.len] at hd
 refine ⟨?_, hd, b, fun x hx => a x (by omega)⟩
 rcases Nat.eq_zero_or_pos (bestOf n l r).2 with z | z
 ·rw [z] at hd
  have := Nat.eq_zero_of_zero_dvd hd
  omega
 ·exact z
end
end Go.Proofs.Yteeihjpnhjnknaa.Rot
namespace Go.Proofs.Yteeihjpnhjnknaa.Mk
open Go.Proofs.Yteeihjpnhjnknaa.Rot Go.RowKit Go.Proofs.YteeihjpnhjnknaaW.PrintWords Go.Proofs.YteeihjpnhjnknaaW.PrintLast Go.Proofs.YteeihjpnhjnknaaW.PrintMore Go.Proofs.Yteeihjpnhjnknaa.GAll Go.Proofs.Yteeihjpnhjnknaa.Mem Go.Proofs.Yteeihjpnhjnknaa.Seen
set_option linter.unusedVariables false
set_option linter.unusedSimpArgs false
def eds (es : List (Int × Int)) : List Ed := es.map fun p => ⟨p.1, p.2⟩
theorem eds_length (es : List (Int × Int)) : (eds es).length = es.length := by unfold eds; simp
theorem ends_eds (es : List (Int × Int)) : Rot.ends (eds es) = es := by unfold Rot.ends eds; rw [List.map_map]; exact List.map_id' es
theorem C_eds {w : World} {A : Option Addr} {n : Nat} {es : List (Int × Int)} (h : Kd.C kp w A n es) : Kd.C k89 w A n (eds es) := by
 refine ⟨by rw [eds_length]; exact h.1, h.2.1, fun hp => ?_⟩
 obtain ⟨ad, e, h3⟩ := h.2.2 hp
 refine ⟨ad, e, fun j p hj => ?_⟩
 unfold eds at hj
 rw [List.getElem?_map] at hj
 obtain ⟨q, hq, rfl⟩ := Option.map_eq_some_iff.1 hj
 obtain ⟨cs, h1, h2, h4⟩ := h3 j q hq
 have h2' : cs = [.int .i64 q.1, .int .i64 q.2] := h2
 subst h2'
 exact ⟨_, rfl, ⟨[.int .i64 q.1], [.int .i64 q.2], rfl, rfl, rfl⟩, h4⟩
theorem rd_eds {es : List (Int × Int)} {i : Nat} (h : i < es.length) : (PureV.rdE (eds es) (i : Nat)).f0 = (pe es i).1 ∧ (PureV.rdE (eds es) (i : Nat)).f1 = (pe es i).2 := by
 have h2 : i < (eds es).length := by rw [eds_length]; exact h
 have e := pe_ends h2
 rw [ends_eds] at e
 rw [e]
 exact ⟨rfl, rfl⟩
theorem pe_get {es : List (Int × Int)} {i : Nat} (h : i < es.length) : es[i] = pe es i := by
 have := pe_of h
 rw [List.getElem?_eq_getElem h] at this
 exact Option.some.inj this
theorem norm_swap (a b : Int) : norm (a, b) = norm (b, a) := by
 unfold norm
 simp only
 by_cases h : a < b
 ·rw [if_pos h, if_neg (by omega)]
 ·by_cases k : b < a
  ·rw [if_neg h, if_pos k]
  ·obtain rfl : a = b := by omega
   rfl
theorem norm_or (p : Int × Int) : norm p = p ∨ norm p = (p.2, p.1) := by
 unfold norm
 by_cases h : p.1 < p.2
 ·exact .inl (if_pos h)
 ·exact .inr (if_neg h)
theorem norm_up {p : Int × Int} (h : p.1 ≠ p.2) : (norm p).1 < (norm p).2 := by
 unfold norm
 by_cases c : p.1 < p.2
 ·rw [if_pos c]; exact c
 ·rw [if_neg c]; show p.2 < p.1; omega
theorem norm_of {p : Int × Int} (h : p.1 < p.2) : norm p = p := if_pos h
theorem norm_eq {a b c d : Int} (h : norm (a, b) = norm (c, d)) : (a = c ∧ b = d) ∨ (a = d ∧ b = c) := by
 rcases norm_or (a, b) with e | e <;> rcases norm_or (c, d) with g | g <;> rw [e, g] at h <;> injection h with h1 h2
 ·exact .inl ⟨h1, h2⟩
 ·exact .inr ⟨h1, h2⟩
 ·exact .inr ⟨h2, h1⟩
 ·exact .inl ⟨h2, h1⟩
theorem eds_good {n : Nat} {ps : List (Int × Int)} (hn : n ≤ 1048576) (hin : ∀ p ∈ ps, (0 ≤ p.1 ∧ p.1 < (n : Int)) ∧ 0 ≤ p.2 ∧ p.2 < (n : Int)) (hlen : (makeL ps).length ≤ 4194304) : PureV.Good (n : Int) (eds (makeL ps)) := by
 obtain ⟨hup, hmem⟩ := makeL_up ps
 refine ⟨by omega, by omega, by rw [eds_length]; exact hlen, fun i hi => ?_⟩
 rw [eds_length] at hi
 obtain ⟨p, hp, hne, e⟩ := (hmem (pe (makeL ps) i)).1 (by rw [← pe_get hi]; exact List.getElem_mem hi)
 have h1 := norm_up hne
 have h2 := hin p hp
 obtain ⟨a, b⟩ := rd_eds hi
 rw [← e] at a b
 have h3 : 0 ≤ (norm p).1 ∧ (norm p).2 < (n : Int) := by
  rcases norm_or p with g | g <;> rw [g]
  ·exact ⟨h2.1.1, h2.2.2⟩
  ·exact ⟨h2.2.1, h2.1.2⟩
 refine ⟨⟨by rw [a]; exact h3.1, by rw [a, b]; exact h1, by rw [b]; exact h3.2⟩, fun h0 => ?_⟩
 have hi' : i - 1 < (makeL ps).length := by omega
 have hl := (List.pairwise_iff_getElem.1 hup) (i - 1) i hi' hi (by omega)
 rw [pe_get hi', pe_get hi, less_iff] at hl
 obtain ⟨a', b'⟩ := rd_eds hi'
 obtain ⟨a2, b2⟩ := rd_eds hi
 unfold PureV.lt
 rw [a', b', a2, b2]
 exact hl
theorem two_ends {n : Nat} {l : List Ed} (hg : PureV.Good (n : Int) l) {i : Nat} (hi : i < l.length) : (frm (toOf l) ((2 * i : Nat) : Int) = (pe (ends l) i).1 ∧ too (toOf l) ((2 * i : Nat) : Int) = (pe (ends l) i).2) ∧ frm (toOf l) ((2 * i + 1 : Nat) : Int) = (pe (ends l) i).2 ∧ too (toOf l) ((2 * i + 1 : Nat) : Int) = (pe (ends l) i).1 := by
 have hi2 : i < (ends l).length := by rw [ends_length]; exact hi
 have t1 := Graph.tos_two (ends l) i hi2
 have f1 := froms_even (ends l) i hi2
 refine ⟨⟨by rw [frm_frs hg (by omega)]; exact f1.1, ?_⟩, by rw [frm_frs hg (by omega)]; exact f1.2, ?_⟩
 ·unfold too; rw [Int.toNat_natCast]; exact t1.1
 ·unfold too; rw [Int.toNat_natCast]; exact t1.2
theorem pe_lt {n : Nat} {l : List Ed} (hg : PureV.Good (n : Int) l) {i : Nat} (hi : i < l.length) : (pe (ends l) i).1 < (pe (ends l) i).2 := by
 rw [pe_ends hi]
 exact (hg.2.2.2 i hi).1.2.1
theorem half_of {n : Nat} {l : List Ed} (hg : PureV.Good (n : Int) l) {h : Nat} (hh : h < 2 * l.length) : (h = 2 * (h / 2) ∧ frm (toOf l) (h : Int) = (pe (ends l) (h / 2)).1 ∧ too (toOf l) (h : Int) = (pe (ends l) (h / 2)).2) ∨ (h = 2 * (h / 2) + 1 ∧ frm (toOf l) (h : Int) = (pe (ends l) (h / 2)).2 ∧ too (toOf l) (h : Int) = (pe (ends l) (h / 2)).1) := by
 obtain ⟨a, b⟩ := two_ends hg (show h / 2 < l.length by omega)
 rcases Nat.mod_two_eq_zero_or_one h with e | e
 ·have e2 : h = 2 * (h / 2) := by omega
  rw [← e2] at a
  exact .inl ⟨e2, a⟩
 ·have e2 : h = 2 * (h / 2) + 1 := by omega
  rw [← e2] at b
  exact .inr ⟨e2, b⟩
theorem frm_ne {n : Nat} {l : List Ed} (hg : PureV.Good (n : Int) l) {h : Nat} (hh : h < 2 * l.length) : frm (toOf l) (h : Int) ≠ too (toOf l) (h : Int) := by
 have := pe_lt hg (show h / 2 < l.length by omega)
 rcases half_of hg hh with ⟨_, a, b⟩ | ⟨_, a, b⟩ <;> rw [a, b] <;> omega
theorem half_norm {n : Nat} {l : List Ed} (hg : PureV.Good (n : Int) l) {h : Nat} (hh : h < 2 * l.length) : norm (frm (toOf l) (h : Int), too (toOf l) (h : Int)) = pe (ends l) (h / 2) := by
 have h1 := pe_lt hg (show h / 2 < l.length by omega)
 rcases half_of hg hh with ⟨_, a, b⟩ | ⟨_, a, b⟩
 ·rw [a, b]; exact norm_of h1
 ·rw [a, b, norm_swap]; exact norm_of h1
theorem half_ex {n : Nat} {l : List Ed} (hg : PureV.Good (n : Int) l) {a b : Int} (h : norm (a, b) ∈ ends l) : ∃ y : Nat, y < 2 * l.length ∧ frm (toOf l) (y : Int) = a ∧ too (toOf l) (y : Int) = b := by
 obtain ⟨i, hi, e⟩ := List.mem_iff_getElem.1 h
 have hil : i < l.length := by rw [ends_length] at hi; exact hi
 rw [pe_get hi] at e
 obtain ⟨⟨p1, p2⟩, p3, p4⟩ := two_ends hg hil
 rw [e] at p1 p2 p3 p4
 rcases norm_or (a, b) with g | g
 ·rw [g] at p1 p2
  exact ⟨2 * i, by omega, p1, p2⟩
 ·rw [g] at p3 p4
  exact ⟨2 * i + 1, by omega, p3, p4⟩
end Go.Proofs.Yteeihjpnhjnknaa.Mk
namespace Go.Proofs.Yteeihjpnhjnknaa.Seen
open Go.RowKit Go.Proofs.YteeihjpnhjnknaaW.PrintWords Go.Proofs.Yteeihjpnhjnknaa.Mem
set_option linter.unusedVariables false
set_option linter.unusedSimpArgs false
structure Ism (nx tos nx' tos' : List Int) (f : Int → Int) : Prop where
 map : ∀ x, In nx x → In nx' (f x)
 next : ∀ x, In nx x → f (gi nx x.toNat) = gi nx' (f x).toNat
 twin : ∀ x, In nx x → f (tw x) = tw (f x)
 inj : ∀ x y, In nx x → In nx y → f x = f y → x = y
section
variable {n : Nat} {nx tos nx' tos' : List Int} {f : Int → Int}
theorem Ism.it (hw : Web n nx tos) (h : Ism nx tos nx' tos' f) {x : Int} (hx : In nx x) : ∀ j, f (it nx x j) = it nx' (f x) j
 | 0 => rfl
 | j + 1 => by
  show f (gi nx (Seen.it nx x j).toNat) = gi nx' (Seen.it nx' (f x) j).toNat
  rw [h.next _ (hx.it hw j), Ism.it hw h hx j]
theorem Ism.frm_iff (hw : Web n nx tos) (hw' : Web n nx' tos') (h : Ism nx tos nx' tos' f) {x y : Int} (hx : In nx x) (hy : In nx y) : frm tos' (f x) = frm tos' (f y) ↔ frm tos x = frm tos y := by
 constructor
 ·intro e
  obtain ⟨j, _, hj⟩ := hw'.arnd (h.map x hx) (h.map y hy) e
  rw [← h.it hw hx] at hj
  rw [← h.inj _ _ (hx.it hw j) hy hj, hw.fit' hx]
 ·intro e
  obtain ⟨j, _, hj⟩ := hw.arnd hx hy e
  rw [← hj, h.it hw hx, hw'.fit' (h.map x hx)]
theorem Ism.to (hw : Web n nx tos) (hw' : Web n nx' tos') (h : Ism nx tos nx' tos' f) {x : Int} (hx : In nx x) : too tos' (f x) = frm tos' (f (tw x)) := by
 rw [h.twin x hx, hw'.ft (h.map x hx)]
theorem Ism.per (hw : Web n nx tos) (h : Ism nx tos nx' tos' f) (hl : nx.length = nx'.length) {x : Int} (hx : In nx x) : per nx' (f x) = per nx x := by
 unfold Seen.per
 have e : (fun j => Seen.it nx' (f x) (j + 1) == f x) = fun j => Seen.it nx x (j + 1) == x := by
  funext j
  rw [← h.it hw hx, Bool.eq_iff_iff, beq_iff_eq, beq_iff_eq]
  exact ⟨fun q => h.inj _ _ (hx.it hw _) hx q, fun q => by rw [q]⟩
 rw [e, hl]
structure Sim2 (nx tos tos' : List Int) (f : Int → Int) (s t : St) : Prop where
 ent : t.ent = s.ent.map f
 cd : t.cd = s.cd
 ord : t.ord.length = s.ord.length
 num : ∀ x, In nx x → gi t.num (frm tos' (f x)).toNat = gi s.num (frm tos x).toNat
theorem Sim2.step (hw : Web n nx tos) (hw' : Web n nx' tos') (h : Ism nx tos nx' tos' f) {s t : St} (k : Sim2 nx tos tos' f s t) (os : Ok n nx.length s) (ot : Ok n nx'.length t) {q : Int} (hq : In nx q) : Sim2 nx tos tos' f (stepH tos s q) (stepH tos' t (f q)) := by
 have e1 : gi tos q.toNat = frm tos (tw q) := (hw.ft hq).symm
 have e2 : gi tos' (f q).toNat = frm tos' (f (tw q)) := h.to hw hw' hq
 have e3 := k.num _ (hq.twin hw)
 have b1 := hw.fr (hq.twin hw)
 have b2 := hw'.fr (h.map _ (hq.twin hw))
 unfold stepH
 rw [e1, e2, e3]
 by_cases c : gi s.num (frm tos (tw q)).toNat < 0
 ·rw [if_pos c, if_pos c]
  refine ⟨?_, ?_, ?_, fun x hx => ?_⟩
  ·show t.ent ++ [tw (f q)] = (s.ent ++ [tw q]).map f
   rw [k.ent, List.map_append, List.map_singleton, h.twin q hq]
  ·show t.cd ++ [(t.ord.length : Int)] = s.cd ++ [(s.ord.length : Int)]
   rw [k.cd, k.ord]
  ·show (t.ord ++ [_]).length = (s.ord ++ [_]).length
   simp [k.ord]
  ·show gi (t.num.set _ _) _ = gi (s.num.set _ _) _
   have b3 := hw.fr hx
   have b4 := hw'.fr (h.map _ hx)
   rw [gi_set, gi_set, k.num x hx, k.ord, os.num, ot.num]
   have := h.frm_iff hw hw' (hq.twin hw) hx
   by_cases e : frm tos (tw q) = frm tos x
   ·rw [if_pos ⟨by rw [this.2 e], by omega⟩, if_pos ⟨by rw [e], by omega⟩]
   ·rw [if_neg (fun w => e (this.1 (by have := w.1; omega))), if_neg (fun w => e (by have := w.1; omega))]
 ·rw [if_neg c, if_neg c]
  exact ⟨k.ent, by show t.cd ++ _ = s.cd ++ _; rw [k.cd], k.ord, k.num⟩
theorem Sim2.turn (hw : Web n nx tos) (hw' : Web n nx' tos') (h : Ism nx tos nx' tos' f) {s t : St} (k : Sim2 nx tos tos' f s t) (os : Ok n nx.length s) (ot : Ok n nx'.length t) {q : Int} (hq : In nx q) : ∀ j, Sim2 nx tos tos' f (turn nx tos s q j) (turn nx' tos' t (f q) j)
 | 0 => k
 | j + 1 => by
  have ih := Sim2.turn hw hw' h k os ot hq j
  show Sim2 nx tos tos' f (stepH tos (Seen.turn nx tos s q j) (Seen.it nx q j)) (stepH tos' (Seen.turn nx' tos' t (f q) j) (Seen.it nx' (f q) j))
  rw [← h.it hw hq]
  have hf := h.map q hq
  exact ih.step hw hw' h (os.turn hw.toFit hq.1 hq.2 j) (ot.turn hw'.toFit hf.1 hf.2 j) (hq.it hw j)
theorem Sim2.vert (hw : Web n nx tos) (hw' : Web n nx' tos') (h : Ism nx tos nx' tos' f) (hl : nx.length = nx'.length) {s t : St} (k : Sim2 nx tos tos' f s t) (os : Ok n nx.length s) (ot : Ok n nx'.length t) {q : Int} (hq : In nx q) : Sim2 nx tos tos' f (vert nx tos s q) (vert nx' tos' t (f q)) := by
 have k0 : Sim2 nx tos tos' f { s with cd := [] } { t with cd := [] } := ⟨k.ent, rfl, k.ord, k.num⟩
 have key := k0.turn hw hw' h (os.cd []) (ot.cd []) hq (Seen.per nx q)
 have e : Seen.vert nx' tos' t (f q) = { Seen.turn nx' tos' { t with cd := [] } (f q) (Seen.per nx q) with cd := t.cd ++ ((Seen.per nx q : Nat) : Int) :: (Seen.turn nx' tos' { t with cd := [] } (f q) (Seen.per nx q)).cd } := by
  unfold Seen.vert
  rw [h.per hw hl hq]
 rw [e]
 refine ⟨key.ent, ?_, key.ord, key.num⟩
 show t.cd ++ _ :: _ = s.cd ++ _ :: _
 rw [k.cd, key.cd]
theorem Sim2.upto (hw : Web n nx tos) (hw' : Web n nx' tos') (h : Ism nx tos nx' tos' f) (hl : nx.length = nx'.length) {s t : St} (k : Sim2 nx tos tos' f s t) (os : Ok n nx.length s) (ot : Ok n nx'.length t) : ∀ j, Sim2 nx tos tos' f (upto nx tos s j) (upto nx' tos' t j)
 | 0 => k
 | j + 1 => by
  have ih := Sim2.upto hw hw' h hl k os ot j
  have hlen : (Seen.upto nx' tos' t j).ent.length = (Seen.upto nx tos s j).ent.length := by rw [ih.ent, List.length_map]
  have o1 := os.upto hw.toFit j
  have o2 := ot.upto hw'.toFit j
  by_cases c : j < (Seen.upto nx tos s j).ent.length
  ·have c2 : j < (Seen.upto nx' tos' t j).ent.length := by rw [hlen]; exact c
   rw [upto_go c, upto_go c2]
   have e : gi (Seen.upto nx' tos' t j).ent j = f (gi (Seen.upto nx tos s j).ent j) := by
    rw [ih.ent]
    unfold gi
    rw [List.getD_eq_getElem?_getD, List.getD_eq_getElem?_getD, List.getElem?_map, List.getElem?_eq_getElem c]
    rfl
   rw [e]
   exact ih.vert hw hw' h hl o1 o2 (o1.inE j c)
  ·have e1 : Seen.upto nx tos s (j + 1) = Seen.upto nx tos s j := by rw [Seen.upto, if_neg c]
   have e2 : Seen.upto nx' tos' t (j + 1) = Seen.upto nx' tos' t j := by rw [Seen.upto, if_neg (by rw [hlen]; exact c)]
   rw [e1, e2]; exact ih
theorem Ism.all (hw : Web n nx tos) (hw' : Web n nx' tos') (h : Ism nx tos nx' tos' f) (hl : nx.length = nx'.length) {y : Int} (hy : In nx y) : Sim2 nx tos tos' f (all n nx tos y) (all n nx' tos' (f y)) := by
 have b1 := hw.fr hy
 have b2 := hw'.fr (h.map y hy)
 have hf := h.map y hy
 have k : Sim2 nx tos tos' f (start n tos y (frm tos y)) (start n tos' (f y) (frm tos' (f y))) := by
  unfold start
  refine ⟨List.map_singleton.symm, rfl, by simp only [List.length_singleton], fun x hx => ?_⟩
  show gi ((List.replicate n (-1)).set _ 0) _ = gi ((List.replicate n (-1)).set _ 0) _
  have b3 := hw.fr hx
  have b4 := hw'.fr (h.map _ hx)
  have := h.frm_iff hw hw' hy hx
  have hr : ∀ v : Nat, v < n → gi (List.replicate n (-1)) v = -1 := fun v hv => by
   unfold gi
   rw [List.getD_eq_getElem?_getD, List.getElem?_replicate, if_pos hv]; rfl
  rw [gi_set, gi_set, hr _ (by omega), hr _ (by omega)]
  by_cases e : frm tos y = frm tos x
  ·rw [if_pos ⟨by rw [this.2 e], by simp; omega⟩, if_pos ⟨by rw [e], by simp; omega⟩]
  ·rw [if_neg (fun w => e (this.1 (by have := w.1; omega))), if_neg (fun w => e (by have := w.1; omega))]
 exact k.upto hw hw' h hl (Ok.start hy b1) (Ok.start hf b2) n
theorem Ism.code (hw : Web n nx tos) (hw' : Web n nx' tos') (h : Ism nx tos nx' tos' f) (hl : nx.length = nx'.length) {y : Int} (hy : In nx y) : (Seen.all n nx' tos' (f y)).cd = (Seen.all n nx tos y).cd := (h.all hw hw' hl hy).cd
end
end Go.Proofs.Yteeihjpnhjnknaa.Seen
namespace Go.Proofs.Yteeihjpnhjnknaa.GAll
open Go.RowKit Go.Proofs.YteeihjpnhjnknaaW.PrintWords Go.Proofs.YteeihjpnhjnknaaW.PrintLast Go.Proofs.YteeihjpnhjnknaaW.PrintMore
attribute [local go_sem] max2_int min2_int max_two min_two max_three min_three max_four min_four   -- for this text's walks alone
set_option linter.unusedVariables false
set_option linter.unusedSimpArgs false
def tangramref11_From.f (a0_0 : Int) (l0_1 : List (S89)) (a1 : Int) : Option (Int) := if (Int.tmod a1 2) = 0 then (if 0 ≤ (wrap64 (Int.tdiv a1 2)) then (if (wrap64 (Int.tdiv a1 2)) < (l0_1.length : Int) then (some ((rd_T89 l0_1 (wrap64 (Int.tdiv a1 2))).f0)) else (none)) else (none)) else (if 0 ≤ (wrap64 (Int.tdiv a1 2)) then (if (wrap64 (Int.tdiv a1 2)) < (l0_1.length : Int) then (some ((rd_T89 l0_1 (wrap64 (Int.tdiv a1 2))).f1)) else (none)) else (none))
set_option maxHeartbeats 8000000 in
set_option maxRecDepth 100000 in
theorem tangramref11_From.calls (a0_0 : Int) (A0_1 : Option Addr) (c0_1 : Nat) (l0_1 : List (S89)) (a1 : Int) (r : Int) (w : World) (hr0_1 : Kd.C k89 w A0_1 l0_1.length l0_1) (hc0_1 : l0_1.length ≤ c0_1) (h : tangramref11_From.f a0_0 l0_1 a1 = some r) :
  Calls Try.prog 45 #[.agg #[.int .i64 a0_0, .slice A0_1 l0_1.length c0_1], .int .i64 a1] w fun e w' => e = .returned (.int .i64 r) ∧ Below w.heap.size w w' := by
 have hu24 := Try.underlying24
 have HR0_1 := Aside0.mk hr0_1
 have HC0_1 := Aside0.mk hc0_1
 clear hr0_1 hc0_1
 have HB := Aside0.mk (Below.refl w.heap.size w)
 have H : (if (Int.tmod a1 2) = 0 then (if 0 ≤ (wrap64 (Int.tdiv a1 2)) then (if (wrap64 (Int.tdiv a1 2)) < (l0_1.length : Int) then (some ((rd_T89 l0_1 (wrap64 (Int.tdiv a1 2))).f0)) else (none)) else (none)) else (if 0 ≤ (wrap64 (Int.tdiv a1 2)) then (if (wrap64 (Int.tdiv a1 2)) < (l0_1.length : Int) then (some ((rd_T89 l0_1 (wrap64 (Int.tdiv a1 2))).f1)) else (none)) else (none))) = some r := h
 clear h
 by_cases c3 : (Int.tmod a1 2) = 0
 ·rw [if_pos c3] at H
  have c3b0 : ((Int.tmod a1 2) == 0) = true := beq_iff_eq.mpr c3
  have c3b1 : ((Int.tmod a1 2) != 0) = false := bne_eq_false_iff_eq.mpr c3
  clear c3
  obtain ⟨ji4, hji4⟩ : ∃ j_ : Int, (wrap64 (Int.tdiv a1 2)) = j_ := ⟨_, rfl⟩
  replace H : (if 0 ≤ (ji4) then (if (ji4) < (l0_1.length : Int) then (some ((rd_T89 l0_1 (ji4)).f0)) else (none)) else (none)) = some r := by first | (rw [hji4] at H; exact H) | (simp only [hji4] at H ⊢; exact H)
  have hji4w : (IntKind.i64.wrap (Int.tdiv a1 2)) = ji4 := (i64_w _).trans hji4
  by_cases c5 : 0 ≤ (ji4)
  ·rw [if_pos c5] at H
   have c5b0 : decide (0 ≤ (ji4)) = true := decide_eq_true c5
   clear c5
   by_cases c6 : (ji4) < (l0_1.length : Int)
   ·rw [if_pos c6] at H
    have c6b0 : decide ((ji4) < (l0_1.length : Int)) = true := decide_eq_true c6
    clear c6
    obtain rfl := Option.some.inj H
    go_enter Try.func45, Try.ntmps45
    go_wp2_with (first | ((with_reducible refine gate_dst (N := 2) rfl ?_); refine box_event ?hg (N := 2) ?hd (cs := #[.int .i64 a0_0, .slice A0_1 l0_1.length c0_1]) (t := 24) ?hr ?_; (case hd => rfl); (case hg => rfl); (case hr => first | (go_simp; done) | (go_simp; rfl)); intro gb283 hg w7 hbox hb; have n0_ := Aside0.mk (below_step (by repeat (first | (with_reducible first | exact HB.out | apply below_alloc | apply pw_below_drewN | apply below_drew1) | exact HB.out)) hb); have n1_ := Aside0.mk (hbox); have n2_ := Aside0.mk ((by rw [hg]; exact (below_size (by repeat (first | (with_reducible first | exact HB.out | apply below_alloc | apply pw_below_drewN | apply below_drew1) | exact HB.out))) : w.heap.size ≤ gb283)); have n3_ := Aside0.mk ((by rw [hg]; exact (below_size (by repeat (first | (with_reducible first | exact HB.out | apply below_alloc | apply pw_below_drewN | apply below_drew1) | exact HB.out))) : w.heap.size ≤ gb283)); clear HB; have HB := n0_; have BK283 := n1_; have GW283 := n2_; have GE283 := n3_; clear n0_ n1_ n2_ n3_; clear hb hbox hg; have hcz8_0 : w7.cell? ⟨gb283, 0, none⟩ = some (.int .i64 a0_0) := (blk_cell BK283.out 0).trans rfl; have hcz8_1 : w7.cell? ⟨gb283, 1, none⟩ = some (.slice A0_1 l0_1.length c0_1) := (blk_cell BK283.out 1).trans rfl; have hfz8_0 := blk_frozen BK283.out 0; have hfz8_1 := blk_frozen BK283.out 1; have p284 : 0 ≤ ((ji4) : Int) := of_decide_eq_true (by first | (with_reducible assumption) | assumption); have q284 : (ji4) < (l0_1.length : Int) := of_decide_eq_true (by first | (with_reducible assumption) | assumption); obtain ⟨ad284, e284, hx284_0, hx284_1⟩ := at_T89 HR0_1.out (ji4) p284 q284; cases e284; replace hx284_0 := (HB.out.cell (World.block_lt_of_cell? w _ hx284_0)).trans hx284_0; replace hx284_1 := (HB.out.cell (World.block_lt_of_cell? w _ hx284_1)).trans hx284_1; replace p284 := eq_true p284; replace q284 := eq_true q284))
    go_ret
    exact ⟨by first | rfl | (simp [errW_none, errW_some] <;> rfl) | (simp only [← hji4]; first | rfl | (simp [errW_none, errW_some] <;> rfl)) | (simp [*, errW_none, errW_some] <;> rfl), by repeat (first | (with_reducible first | exact HB.out | apply below_alloc | apply pw_below_drewN | apply below_drew1 | refine below_set ?_ GE283.out) | exact HB.out)⟩
   ·rw [if_neg c6] at H
    exact absurd H (by simp)
  ·rw [if_neg c5] at H
   exact absurd H (by simp)
 ·rw [if_neg c3] at H
  have c3b0 : ((Int.tmod a1 2) == 0) = false := beq_eq_false_iff_ne.mpr c3
  have c3b1 : ((Int.tmod a1 2) != 0) = true := bne_iff_ne.mpr c3
  obtain ⟨ji9, hji9⟩ : ∃ j_ : Int, (wrap64 (Int.tdiv a1 2)) = j_ := ⟨_, rfl⟩
  replace H : (if 0 ≤ (ji9) then (if (ji9) < (l0_1.length : Int) then (some ((rd_T89 l0_1 (ji9)).f1)) else (none)) else (none)) = some r := by first | (rw [hji9] at H; exact H) | (simp only [hji9] at H ⊢; exact H)
  have hji9w : (IntKind.i64.wrap (Int.tdiv a1 2)) = ji9 := (i64_w _).trans hji9
  by_cases c10 : 0 ≤ (ji9)
  ·rw [if_pos c10] at H
   have c10b0 : decide (0 ≤ (ji9)) = true := decide_eq_true c10
   clear c10
   by_cases c11 : (ji9) < (l0_1.length : Int)
   ·rw [if_pos c11] at H
    have c11b0 : decide ((ji9) < (l0_1.length : Int)) = true := decide_eq_true c11
    clear c11
    obtain rfl := Option.some.inj H
    go_enter Try.func45, Try.ntmps45
    go_wp2_with (first | ((with_reducible refine gate_dst (N := 2) rfl ?_); refine box_event ?hg (N := 2) ?hd (cs := #[.int .i64 a0_0, .slice A0_1 l0_1.length c0_1]) (t := 24) ?hr ?_; (case hd => rfl); (case hg => rfl); (case hr => first | (go_simp; done) | (go_simp; rfl)); intro gb283 hg w12 hbox hb; have n0_ := Aside0.mk (below_step (by repeat (first | (with_reducible first | exact HB.out | apply below_alloc | apply pw_below_drewN | apply below_drew1) | exact HB.out)) hb); have n1_ := Aside0.mk (hbox); have n2_ := Aside0.mk ((by rw [hg]; exact (below_size (by repeat (first | (with_reducible first | exact HB.out | apply below_alloc | apply pw_below_drewN | apply below_drew1) | exact HB.out))) : w.heap.size ≤ gb283)); have n3_ := Aside0.mk ((by rw [hg]; exact (below_size (by repeat (first | (with_reducible first | exact HB.out | apply below_alloc | apply pw_below_drewN | apply below_drew1) | exact HB.out))) : w.heap.size ≤ gb283)); clear HB; have HB := n0_; have BK283 := n1_; have GW283 := n2_; have GE283 := n3_; clear n0_ n1_ n2_ n3_; clear hb hbox hg; have hcz13_0 : w12.cell? ⟨gb283, 0, none⟩ = some (.int .i64 a0_0) := (blk_cell BK283.out 0).trans rfl; have hcz13_1 : w12.cell? ⟨gb283, 1, none⟩ = some (.slice A0_1 l0_1.length c0_1) := (blk_cell BK283.out 1).trans rfl; have hfz13_0 := blk_frozen BK283.out 0; have hfz13_1 := blk_frozen BK283.out 1; have p285 : 0 ≤ ((ji9) : Int) := of_decide_eq_true (by first | (with_reducible assumption) | assumption); have q285 : (ji9) < (l0_1.length : Int) := of_decide_eq_true (by first | (with_reducible assumption) | assumption); obtain ⟨ad285, e285, hx285_0, hx285_1⟩ := at_T89 HR0_1.out (ji9) p285 q285; cases e285; replace hx285_0 := (HB.out.cell (World.block_lt_of_cell? w _ hx285_0)).trans hx285_0; replace hx285_1 := (HB.out.cell (World.block_lt_of_cell? w _ hx285_1)).trans hx285_1; replace p285 := eq_true p285; replace q285 := eq_true q285))
    go_ret
    exact ⟨by first | rfl | (simp [errW_none, errW_some] <;> rfl) | (simp only [← hji9]; first | rfl | (simp [errW_none, errW_some] <;> rfl)) | (simp [*, errW_none, errW_some] <;> rfl), by repeat (first | (with_reducible first | exact HB.out | apply below_alloc | apply pw_below_drewN | apply below_drew1 | refine below_set ?_ GE283.out) | exact HB.out)⟩
   ·rw [if_neg c11] at H
    exact absurd H (by simp)
  ·rw [if_neg c10] at H
   exact absurd H (by simp)
end Go.Proofs.Yteeihjpnhjnknaa.GAll
namespace Go.Proofs.Yteeihjpnhjnknaa.GAll
open Go.RowKit Go.Proofs.YteeihjpnhjnknaaW.PrintWords Go.Proofs.YteeihjpnhjnknaaW.PrintLast Go.Proofs.YteeihjpnhjnknaaW.PrintMore
attribute [local go_sem] max2_int min2_int max_two min_two max_three min_three max_four min_four   -- for this text's walks alone
set_option linter.unusedVariables false
set_option linter.unusedSimpArgs false
def tangramref11_To.f (a0_0 : Int) (l0_1 : List (S89)) (a1 : Int) : Option (Int) := (tangramref11_From.f a0_0 l0_1 (Go.bits .xor .i64 a1 1)).bind fun t287 => (some t287)
set_option maxHeartbeats 8000000 in
set_option maxRecDepth 100000 in
theorem tangramref11_To.calls (a0_0 : Int) (A0_1 : Option Addr) (c0_1 : Nat) (l0_1 : List (S89)) (a1 : Int) (r : Int) (w : World) (hr0_1 : Kd.C k89 w A0_1 l0_1.length l0_1) (hc0_1 : l0_1.length ≤ c0_1) (h : tangramref11_To.f a0_0 l0_1 a1 = some r) :
  Calls Try.prog 46 #[.agg #[.int .i64 a0_0, .slice A0_1 l0_1.length c0_1], .int .i64 a1] w fun e w' => e = .returned (.int .i64 r) ∧ Below w.heap.size w w' := by
 have hu24 := Try.underlying24
 have HR0_1 := Aside0.mk hr0_1
 have HC0_1 := Aside0.mk hc0_1
 clear hr0_1 hc0_1
 have HB := Aside0.mk (Below.refl w.heap.size w)
 have H : ((tangramref11_From.f a0_0 l0_1 (Go.bits .xor .i64 a1 1)).bind fun t287 => (some t287)) = some r := h
 clear h
 replace H := Option.bind_eq_some_iff.mp H
 obtain ⟨t287, A30, H⟩ := H
 replace H : (some t287) = some r := H
 have A3 := Aside0.mk A30
 clear A30
 obtain rfl := Option.some.inj H
 go_enter Try.func46, Try.ntmps46
 go_wp2_with (first | ((with_reducible refine gate_dst (N := 2) rfl ?_); refine box_event ?hg (N := 2) ?hd (cs := #[.int .i64 a0_0, .slice A0_1 l0_1.length c0_1]) (t := 24) ?hr ?_; (case hd => rfl); (case hg => rfl); (case hr => first | (go_simp; done) | (go_simp; rfl)); intro gb286 hg w4 hbox hb; have n0_ := Aside0.mk (below_step (by repeat (first | (with_reducible first | exact HB.out | apply below_alloc | apply pw_below_drewN | apply below_drew1) | exact HB.out)) hb); have n1_ := Aside0.mk (hbox); have n2_ := Aside0.mk ((by rw [hg]; exact (below_size (by repeat (first | (with_reducible first | exact HB.out | apply below_alloc | apply pw_below_drewN | apply below_drew1) | exact HB.out))) : w.heap.size ≤ gb286)); have n3_ := Aside0.mk ((by rw [hg]; exact (below_size (by repeat (first | (with_reducible first | exact HB.out | apply below_alloc | apply pw_below_drewN | apply below_drew1) | exact HB.out))) : w.heap.size ≤ gb286)); clear HB; have HB := n0_; have BK286 := n1_; have GW286 := n2_; have GE286 := n3_; clear n0_ n1_ n2_ n3_; clear hb hbox hg; have hcz5_0 : w4.cell? ⟨gb286, 0, none⟩ = some (.int .i64 a0_0) := (blk_cell BK286.out 0).trans rfl; have hcz5_1 : w4.cell? ⟨gb286, 1, none⟩ = some (.slice A0_1 l0_1.length c0_1) := (blk_cell BK286.out 1).trans rfl; have hfz5_0 := blk_frozen BK286.out 0; have hfz5_1 := blk_frozen BK286.out 1) | ((with_reducible refine gate_callee (f := 45) rfl ?_); refine goesL_ (some 8) rfl rfl Try.func45 (by kernel_rfl) rfl #[.agg #[.int .i64 a0_0, .slice A0_1 l0_1.length c0_1], .int .i64 (Go.bits .xor .i64 a1 1)] rfl (by (try simp only [List.map_toArray, List.map_cons, List.map_nil]); first | done | rfl | (simp only [List.length_drop, List.length_take]; rfl)) ?_; (with_reducible refine (tangramref11_From.calls a0_0 _ _ l0_1 (Go.bits .xor .i64 a1 1) t287 _ ?side1 ?side2 A3.out).mono ?_); (case side1 => repeat (first | exact (Kd.C_below HR0_1.out HB.out) | (with_reducible refine Kd.C_alloc ?_ _) | (with_reducible refine Kd.C_drewN ?_ _) | (with_reducible refine Kd.C_drew ?_))); (case side2 => exact HC0_1.out); rintro e w6 ⟨rfl, hb⟩; refine ⟨_, rfl, ?_⟩; have n0_ := Aside0.mk (blk_below (g := gb286) (o := .cells #[.int .i64 a0_0, .slice A0_1 l0_1.length c0_1] 24 (0, 0)) (by (with_reducible repeat (first | refine blk_drewN ?_ _ | refine blk_drew ?_ | refine blk_alloc ?_ _)); exact BK286.out) hb); have n1_ := Aside0.mk (below_step (by repeat (first | (with_reducible first | exact HB.out | apply below_alloc | apply pw_below_drewN | apply below_drew1 | refine below_set ?_ GE286.out) | exact HB.out)) hb); clear BK286; clear HB; have BK286 := n0_; have HB := n1_; clear n0_ n1_; (try clear hb); (try clear hb2); (try clear hk); (try clear hi)))
 go_ret
 exact ⟨by first | rfl | (simp [errW_none, errW_some] <;> rfl) | (simp [*, errW_none, errW_some] <;> rfl), by repeat (first | (with_reducible first | exact HB.out | apply below_alloc | apply pw_below_drewN | apply below_drew1 | refine below_set ?_ GE286.out) | exact HB.out)⟩
end Go.Proofs.Yteeihjpnhjnknaa.GAll
namespace Go.Proofs.Yteeihjpnhjnknaa.GAll
open Go.RowKit Go.Proofs.YteeihjpnhjnknaaW.PrintWords Go.Proofs.YteeihjpnhjnknaaW.PrintLast Go.Proofs.YteeihjpnhjnknaaW.PrintMore
attribute [local go_sem] max2_int min2_int max_two min_two max_three min_three max_four min_four   -- for this text's walks alone
set_option linter.unusedVariables false
set_option linter.unusedSimpArgs false
def tangramref11_Half.l0 : Nat → Int → Int → Int → Int → List (S89) → Option (Int)
 | 0, _, _, _, _, _ => none
 | k + 1, x1, x2, x7, x289000, x289001 => if x7 < (wrap64 (2 * (x289001.length : Int))) then ((tangramref11_From.f x289000 x289001 x7).bind fun t289 => (if t289 = x1 then ((tangramref11_To.f x289000 x289001 x7).bind fun t290 => (if t290 = x2 then (some x7) else (tangramref11_Half.l0 k x1 x2 (wrap64 (x7 + 1)) x289000 x289001))) else (tangramref11_Half.l0 k x1 x2 (wrap64 (x7 + 1)) x289000 x289001))) else (some (-1))
def tangramref11_Half.f (k : Nat) (a0_0 : Int) (l0_1 : List (S89)) (a1 : Int) (a2 : Int) : Option (Int) := tangramref11_Half.l0 k a1 a2 0 a0_0 l0_1
theorem tangramref11_Half.mono_l : ∀ k, (∀ y0 y1 y2 y3 y4, LeO (tangramref11_Half.l0 k y0 y1 y2 y3 y4) (tangramref11_Half.l0 (k + 1) y0 y1 y2 y3 y4))
 | 0 => fun _ _ _ _ _ r h => by simp [tangramref11_Half.l0] at h
 | k + 1 => by
  have ih0 := tangramref11_Half.mono_l k
  ·intro y0 y1 y2 y3 y4
   unfold tangramref11_Half.l0
   repeat' first
   | (with_reducible exact ih0 _ _ _ _ _)
   | (with_reducible exact LeO.refl _)
   | (with_reducible exact LeO.none _)
   | (with_reducible refine LeO.ite ?_ ?_)
   | (with_reducible refine LeO.bind ?_ (fun _ => ?_))
   | exact ih0 _ _ _ _ _
   | exact LeO.none _
   | refine LeO.ite ?_ ?_
   | refine LeO.bind ?_ (fun _ => ?_)
theorem tangramref11_Half.mono : ∀ a0 a1 a2 a3 k, LeO (tangramref11_Half.f k a0 a1 a2 a3) (tangramref11_Half.f (k + 1) a0 a1 a2 a3) := by
 intro a0 a1 a2 a3 k
 have ih0 := tangramref11_Half.mono_l k
 unfold tangramref11_Half.f
 repeat' first
   | (with_reducible exact ih0 _ _ _ _ _)
   | (with_reducible exact LeO.refl _)
   | (with_reducible exact LeO.none _)
   | (with_reducible refine LeO.ite ?_ ?_)
   | (with_reducible refine LeO.bind ?_ (fun _ => ?_))
   | exact ih0 _ _ _ _ _
   | exact LeO.none _
   | refine LeO.ite ?_ ?_
   | refine LeO.bind ?_ (fun _ => ?_)
set_option maxHeartbeats 8000000 in
set_option maxRecDepth 100000 in
theorem tangramref11_Half.calls (k : Nat) (a0_0 : Int) (A0_1 : Option Addr) (c0_1 : Nat) (l0_1 : List (S89)) (a1 : Int) (a2 : Int) (r : Int) (w : World) (hr0_1 : Kd.C k89 w A0_1 l0_1.length l0_1) (hc0_1 : l0_1.length ≤ c0_1) (h : tangramref11_Half.f k a0_0 l0_1 a1 a2 = some r) :
  Calls Try.prog 24 #[.agg #[.int .i64 a0_0, .slice A0_1 l0_1.length c0_1], .int .i64 a1, .int .i64 a2] w fun e w' => e = .returned (.int .i64 r) ∧ Below w.heap.size w w' := by
 have hu24 := Try.underlying24
 have HR0_1 := Aside0.mk hr0_1
 have HC0_1 := Aside0.mk hc0_1
 clear hr0_1 hc0_1
 have HB := Aside0.mk (Below.refl w.heap.size w)
 have H : (tangramref11_Half.l0 k a1 a2 0 a0_0 l0_1) = some r := h
 clear h
 have H' := Aside0.mk H
 clear H
 go_enter Try.func24, Try.ntmps24
 go_wp2_with (first | ((with_reducible refine gate_dst (N := 3) rfl ?_); refine box_event ?hg (N := 3) ?hd (cs := #[.int .i64 a0_0, .slice A0_1 l0_1.length c0_1]) (t := 24) ?hr ?_; (case hd => rfl); (case hg => rfl); (case hr => first | (go_simp; done) | (go_simp; rfl)); intro gb288 hg w4 hbox hb; have n0_ := Aside0.mk (below_step (by repeat (first | (with_reducible first | exact HB.out | apply below_alloc | apply pw_below_drewN | apply below_drew1) | exact HB.out)) hb); have n1_ := Aside0.mk (hbox); have n2_ := Aside0.mk ((by rw [hg]; exact (below_size (by repeat (first | (with_reducible first | exact HB.out | apply below_alloc | apply pw_below_drewN | apply below_drew1) | exact HB.out))) : w.heap.size ≤ gb288)); have n3_ := Aside0.mk ((by rw [hg]; exact (below_size (by repeat (first | (with_reducible first | exact HB.out | apply below_alloc | apply pw_below_drewN | apply below_drew1) | exact HB.out))) : w.heap.size ≤ gb288)); clear HB; have HB := n0_; have BK288 := n1_; have GW288 := n2_; have GE288 := n3_; clear n0_ n1_ n2_ n3_; clear hb hbox hg))
 go_loopg [7] k (fun kq v7 w' => ∃ (x7_1 : Int), v7 = .int .i64 x7_1 ∧ Aside0 (tangramref11_Half.l0 kq a1 a2 x7_1 a0_0 l0_1 = some r) ∧ Aside0 (kq ≤ k) ∧ Aside0 (w'.heap[gb288]? = some (.cells #[.int .i64 a0_0, (.slice A0_1 l0_1.length c0_1)] 24 (0, 0))) ∧ Aside0 (Below w.heap.size w w'))
 case atStart => exact ⟨(0), (by first | rfl | (simp; done) | (simp [*]; done)), H', ⟨Nat.le_refl _⟩, ⟨by (with_reducible repeat (first | refine blk_drewN ?_ _ | refine blk_drew ?_ | refine blk_alloc ?_ _)); exact BK288.out⟩, ⟨by repeat (first | (with_reducible first | exact HB.out | apply below_alloc | apply pw_below_drewN | apply below_drew1 | refine below_set ?_ GE288.out) | exact HB.out)⟩⟩
 case round =>
  clear H'
  try clear c2
  try clear p2
  obtain ⟨x7_1, rfl, HA, HK1, BK288, HB⟩ := hrel
  cases gk with
  | zero => exact absurd HA.out (by simp [tangramref11_Half.l0])
  | succ k1 =>
   have H := HA.out
   clear HA
   simp only [tangramref11_Half.l0] at H
   by_cases c5 : x7_1 < (wrap64 (2 * (l0_1.length : Int)))
   ·rw [if_pos c5] at H
    have c5b0 : decide (x7_1 < (wrap64 (2 * (l0_1.length : Int)))) = true := decide_eq_true c5
    clear c5
    replace H := Option.bind_eq_some_iff.mp H
    obtain ⟨t289, A60, H⟩ := H
    replace H : (if t289 = a1 then ((tangramref11_To.f a0_0 l0_1 x7_1).bind fun t290 => (if t290 = a2 then (some x7_1) else (tangramref11_Half.l0 k1 a1 a2 (wrap64 (x7_1 + 1)) a0_0 l0_1))) else (tangramref11_Half.l0 k1 a1 a2 (wrap64 (x7_1 + 1)) a0_0 l0_1)) = some r := H
    have A6 := Aside0.mk A60
    clear A60
    by_cases c7 : t289 = a1
    ·rw [if_pos c7] at H
     have c7b0 : (t289 == a1) = true := beq_iff_eq.mpr c7
     have c7b1 : (t289 != a1) = false := bne_eq_false_iff_eq.mpr c7
     clear c7
     replace H := Option.bind_eq_some_iff.mp H
     obtain ⟨t290, A80, H⟩ := H
     replace H : (if t290 = a2 then (some x7_1) else (tangramref11_Half.l0 k1 a1 a2 (wrap64 (x7_1 + 1)) a0_0 l0_1)) = some r := H
     have A8 := Aside0.mk A80
     clear A80
     by_cases c9 : t290 = a2
     ·rw [if_pos c9] at H
      have c9b0 : (t290 == a2) = true := beq_iff_eq.mpr c9
      have c9b1 : (t290 != a2) = false := bne_eq_false_iff_eq.mpr c9
      clear c9
      obtain rfl := Option.some.inj H
      have hcz10_0 : wr.cell? ⟨gb288, 0, none⟩ = some (.int .i64 a0_0) := (blk_cell BK288.out 0).trans rfl
      have hcz10_1 : wr.cell? ⟨gb288, 1, none⟩ = some (.slice A0_1 l0_1.length c0_1) := (blk_cell BK288.out 1).trans rfl
      have hfz10_0 := blk_frozen BK288.out 0
      have hfz10_1 := blk_frozen BK288.out 1
      go_wp2_with (first | ((with_reducible refine gate_callee (f := 45) rfl ?_); refine goesL_ (some 18) rfl rfl Try.func45 (by kernel_rfl) rfl #[.agg #[.int .i64 a0_0, .slice A0_1 l0_1.length c0_1], .int .i64 x7_1] rfl (by (try simp only [List.map_toArray, List.map_cons, List.map_nil]); first | done | rfl | (simp only [List.length_drop, List.length_take]; rfl)) ?_; (with_reducible refine (tangramref11_From.calls a0_0 _ _ l0_1 x7_1 t289 _ ?side1 ?side2 A6.out).mono ?_); (case side1 => repeat (first | exact (Kd.C_below HR0_1.out HB.out) | (with_reducible refine Kd.C_alloc ?_ _) | (with_reducible refine Kd.C_drewN ?_ _) | (with_reducible refine Kd.C_drew ?_))); (case side2 => exact HC0_1.out); rintro e w11 ⟨rfl, hb⟩; refine ⟨_, rfl, ?_⟩; have n0_ := Aside0.mk (blk_below (g := gb288) (o := .cells #[.int .i64 a0_0, .slice A0_1 l0_1.length c0_1] 24 (0, 0)) (by (with_reducible repeat (first | refine blk_drewN ?_ _ | refine blk_drew ?_ | refine blk_alloc ?_ _)); exact BK288.out) hb); have n1_ := Aside0.mk (below_step (by repeat (first | (with_reducible first | exact HB.out | apply below_alloc | apply pw_below_drewN | apply below_drew1 | refine below_set ?_ GE288.out) | exact HB.out)) hb); clear BK288; clear HB; have BK288 := n0_; have HB := n1_; clear n0_ n1_; (try clear hb); (try clear hb2); (try clear hk); (try clear hi); have hcz12_0 : w11.cell? ⟨gb288, 0, none⟩ = some (.int .i64 a0_0) := (blk_cell BK288.out 0).trans rfl; have hcz12_1 : w11.cell? ⟨gb288, 1, none⟩ = some (.slice A0_1 l0_1.length c0_1) := (blk_cell BK288.out 1).trans rfl; have hfz12_0 := blk_frozen BK288.out 0; have hfz12_1 := blk_frozen BK288.out 1) | (go_at_call 46; (with_reducible refine (tangramref11_To.calls a0_0 _ _ l0_1 x7_1 t290 _ ?side1 ?side2 A8.out).mono ?_); (case side1 => repeat (first | exact (Kd.C_below HR0_1.out HB.out) | (with_reducible refine Kd.C_alloc ?_ _) | (with_reducible refine Kd.C_drewN ?_ _) | (with_reducible refine Kd.C_drew ?_))); (case side2 => exact HC0_1.out); rintro e w13 ⟨rfl, hb⟩; have n0_ := Aside0.mk (blk_below (g := gb288) (o := .cells #[.int .i64 a0_0, .slice A0_1 l0_1.length c0_1] 24 (0, 0)) (by (with_reducible repeat (first | refine blk_drewN ?_ _ | refine blk_drew ?_ | refine blk_alloc ?_ _)); exact BK288.out) hb); have n1_ := Aside0.mk (below_step (by repeat (first | (with_reducible first | exact HB.out | apply below_alloc | apply pw_below_drewN | apply below_drew1 | refine below_set ?_ GE288.out) | exact HB.out)) hb); clear BK288; clear HB; have BK288 := n0_; have HB := n1_; clear n0_ n1_; (try clear hb); (try clear hb2); (try clear hk); (try clear hi)))
      go_ret
      exact ⟨by first | rfl | (simp [errW_none, errW_some] <;> rfl) | (simp [*, errW_none, errW_some] <;> rfl), by repeat (first | (with_reducible first | exact HB.out | apply below_alloc | apply pw_below_drewN | apply below_drew1 | refine below_set ?_ GE288.out) | exact HB.out)⟩
     ·rw [if_neg c9] at H
      have c9b0 : (t290 == a2) = false := beq_eq_false_iff_ne.mpr c9
      have c9b1 : (t290 != a2) = true := bne_iff_ne.mpr c9
      have H' := Aside0.mk H
      clear H
      have hcz14_0 : wr.cell? ⟨gb288, 0, none⟩ = some (.int .i64 a0_0) := (blk_cell BK288.out 0).trans rfl
      have hcz14_1 : wr.cell? ⟨gb288, 1, none⟩ = some (.slice A0_1 l0_1.length c0_1) := (blk_cell BK288.out 1).trans rfl
      have hfz14_0 := blk_frozen BK288.out 0
      have hfz14_1 := blk_frozen BK288.out 1
      go_wp2_with (first | ((with_reducible refine gate_callee (f := 45) rfl ?_); refine goesL_ (some 18) rfl rfl Try.func45 (by kernel_rfl) rfl #[.agg #[.int .i64 a0_0, .slice A0_1 l0_1.length c0_1], .int .i64 x7_1] rfl (by (try simp only [List.map_toArray, List.map_cons, List.map_nil]); first | done | rfl | (simp only [List.length_drop, List.length_take]; rfl)) ?_; (with_reducible refine (tangramref11_From.calls a0_0 _ _ l0_1 x7_1 t289 _ ?side1 ?side2 A6.out).mono ?_); (case side1 => repeat (first | exact (Kd.C_below HR0_1.out HB.out) | (with_reducible refine Kd.C_alloc ?_ _) | (with_reducible refine Kd.C_drewN ?_ _) | (with_reducible refine Kd.C_drew ?_))); (case side2 => exact HC0_1.out); rintro e w15 ⟨rfl, hb⟩; refine ⟨_, rfl, ?_⟩; have n0_ := Aside0.mk (blk_below (g := gb288) (o := .cells #[.int .i64 a0_0, .slice A0_1 l0_1.length c0_1] 24 (0, 0)) (by (with_reducible repeat (first | refine blk_drewN ?_ _ | refine blk_drew ?_ | refine blk_alloc ?_ _)); exact BK288.out) hb); have n1_ := Aside0.mk (below_step (by repeat (first | (with_reducible first | exact HB.out | apply below_alloc | apply pw_below_drewN | apply below_drew1 | refine below_set ?_ GE288.out) | exact HB.out)) hb); clear BK288; clear HB; have BK288 := n0_; have HB := n1_; clear n0_ n1_; (try clear hb); (try clear hb2); (try clear hk); (try clear hi); have hcz16_0 : w15.cell? ⟨gb288, 0, none⟩ = some (.int .i64 a0_0) := (blk_cell BK288.out 0).trans rfl; have hcz16_1 : w15.cell? ⟨gb288, 1, none⟩ = some (.slice A0_1 l0_1.length c0_1) := (blk_cell BK288.out 1).trans rfl; have hfz16_0 := blk_frozen BK288.out 0; have hfz16_1 := blk_frozen BK288.out 1) | (go_at_call 46; (with_reducible refine (tangramref11_To.calls a0_0 _ _ l0_1 x7_1 t290 _ ?side1 ?side2 A8.out).mono ?_); (case side1 => repeat (first | exact (Kd.C_below HR0_1.out HB.out) | (with_reducible refine Kd.C_alloc ?_ _) | (with_reducible refine Kd.C_drewN ?_ _) | (with_reducible refine Kd.C_drew ?_))); (case side2 => exact HC0_1.out); rintro e w17 ⟨rfl, hb⟩; have n0_ := Aside0.mk (blk_below (g := gb288) (o := .cells #[.int .i64 a0_0, .slice A0_1 l0_1.length c0_1] 24 (0, 0)) (by (with_reducible repeat (first | refine blk_drewN ?_ _ | refine blk_drew ?_ | refine blk_alloc ?_ _)); exact BK288.out) hb); have n1_ := Aside0.mk (below_step (by repeat (first | (with_reducible first | exact HB.out | apply below_alloc | apply pw_below_drewN | apply below_drew1 | refine below_set ?_ GE288.out) | exact HB.out)) hb); clear BK288; clear HB; have BK288 := n0_; have HB := n1_; clear n0_ n1_; (try clear hb); (try clear hb2); (try clear hk); (try clear hi)))
      go_roundg k1
      case measure => have := HK1.out; omega
      case rel => exact ⟨(wrap64 (x7_1 + 1)), (by first | rfl | (simp; done) | (simp [*]; done)), H', ⟨by have := HK1.out; omega⟩, ⟨by (with_reducible repeat (first | refine blk_drewN ?_ _ | refine blk_drew ?_ | refine blk_alloc ?_ _)); exact BK288.out⟩, ⟨by repeat (first | (with_reducible first | exact HB.out | apply below_alloc | apply pw_below_drewN | apply below_drew1 | refine below_set ?_ GE288.out) | exact HB.out)⟩⟩
    ·rw [if_neg c7] at H
     have c7b0 : (t289 == a1) = false := beq_eq_false_iff_ne.mpr c7
     have c7b1 : (t289 != a1) = true := bne_iff_ne.mpr c7
     have H' := Aside0.mk H
     clear H
     have hcz18_0 : wr.cell? ⟨gb288, 0, none⟩ = some (.int .i64 a0_0) := (blk_cell BK288.out 0).trans rfl
     have hcz18_1 : wr.cell? ⟨gb288, 1, none⟩ = some (.slice A0_1 l0_1.length c0_1) := (blk_cell BK288.out 1).trans rfl
     have hfz18_0 := blk_frozen BK288.out 0
     have hfz18_1 := blk_frozen BK288.out 1
     go_wp2_with (first | ((with_reducible refine gate_callee (f := 45) rfl ?_); refine goesL_ (some 18) rfl rfl Try.func45 (by kernel_rfl) rfl #[.agg #[.int .i64 a0_0, .slice A0_1 l0_1.length c0_1], .int .i64 x7_1] rfl (by (try simp only [List.map_toArray, List.map_cons, List.map_nil]); first | done | rfl | (simp only [List.length_drop, List.length_take]; rfl)) ?_; (with_reducible refine (tangramref11_From.calls a0_0 _ _ l0_1 x7_1 t289 _ ?side1 ?side2 A6.out).mono ?_); (case side1 => repeat (first | exact (Kd.C_below HR0_1.out HB.out) | (with_reducible refine Kd.C_alloc ?_ _) | (with_reducible refine Kd.C_drewN ?_ _) | (with_reducible refine Kd.C_drew ?_))); (case side2 => exact HC0_1.out); rintro e w19 ⟨rfl, hb⟩; refine ⟨_, rfl, ?_⟩; have n0_ := Aside0.mk (blk_below (g := gb288) (o := .cells #[.int .i64 a0_0, .slice A0_1 l0_1.length c0_1] 24 (0, 0)) (by (with_reducible repeat (first | refine blk_drewN ?_ _ | refine blk_drew ?_ | refine blk_alloc ?_ _)); exact BK288.out) hb); have n1_ := Aside0.mk (below_step (by repeat (first | (with_reducible first | exact HB.out | apply below_alloc | apply pw_below_drewN | apply below_drew1 | refine below_set ?_ GE288.out) | exact HB.out)) hb); clear BK288; clear HB; have BK288 := n0_; have HB := n1_; clear n0_ n1_; (try clear hb); (try clear hb2); (try clear hk); (try clear hi)))
     go_roundg k1
     case measure => have := HK1.out; omega
     case rel => exact ⟨(wrap64 (x7_1 + 1)), (by first | rfl | (simp; done) | (simp [*]; done)), H', ⟨by have := HK1.out; omega⟩, ⟨by (with_reducible repeat (first | refine blk_drewN ?_ _ | refine blk_drew ?_ | refine blk_alloc ?_ _)); exact BK288.out⟩, ⟨by repeat (first | (with_reducible first | exact HB.out | apply below_alloc | apply pw_below_drewN | apply below_drew1 | refine below_set ?_ GE288.out) | exact HB.out)⟩⟩
   ·rw [if_neg c5] at H
    have c5b0 : decide (x7_1 < (wrap64 (2 * (l0_1.length : Int)))) = false := decide_eq_false c5
    clear c5
    obtain rfl := Option.some.inj H
    have hcz20_0 : wr.cell? ⟨gb288, 0, none⟩ = some (.int .i64 a0_0) := (blk_cell BK288.out 0).trans rfl
    have hcz20_1 : wr.cell? ⟨gb288, 1, none⟩ = some (.slice A0_1 l0_1.length c0_1) := (blk_cell BK288.out 1).trans rfl
    have hfz20_0 := blk_frozen BK288.out 0
    have hfz20_1 := blk_frozen BK288.out 1
    go_wp2
    go_ret
    exact ⟨by first | rfl | (simp [errW_none, errW_some] <;> rfl) | (simp [*, errW_none, errW_some] <;> rfl), by repeat (first | (with_reducible first | exact HB.out | apply below_alloc | apply pw_below_drewN | apply below_drew1 | refine below_set ?_ GE288.out) | exact HB.out)⟩
end Go.Proofs.Yteeihjpnhjnknaa.GAll
namespace Go.Proofs.Yteeihjpnhjnknaa.GAll
open Go.RowKit Go.Proofs.YteeihjpnhjnknaaW.PrintWords Go.Proofs.YteeihjpnhjnknaaW.PrintLast Go.Proofs.YteeihjpnhjnknaaW.PrintMore
attribute [local go_sem] max2_int min2_int max_two min_two max_three min_three max_four min_four   -- for this text's walks alone
set_option linter.unusedVariables false
set_option linter.unusedSimpArgs false
def tangramref11_stands.l0 : Nat → List Int → Int → Int → Int → Option (Bool)
 | 0, _, _, _, _ => none
 | k + 1, x0, x1, x2, x7 => if x7 < x1 then (if 0 ≤ x7 then (if x7 < (x0.length : Int) then (if (rd x0 x7) = x2 then (some true) else (tangramref11_stands.l0 k x0 x1 x2 (wrap64 (x7 + 1)))) else (none)) else (none)) else (some false)
def tangramref11_stands.f (k : Nat) (l0 : List Int) (a1 : Int) (a2 : Int) : Option (Bool) := tangramref11_stands.l0 k l0 a1 a2 0
theorem tangramref11_stands.mono_l : ∀ k, (∀ y0 y1 y2 y3, LeO (tangramref11_stands.l0 k y0 y1 y2 y3) (tangramref11_stands.l0 (k + 1) y0 y1 y2 y3))
 | 0 => fun _ _ _ _ r h => by simp [tangramref11_stands.l0] at h
 | k + 1 => by
  have ih0 := tangramref11_stands.mono_l k
  ·intro y0 y1 y2 y3
   unfold tangramref11_stands.l0
   repeat' first
   | (with_reducible exact ih0 _ _ _ _)
   | (with_reducible exact LeO.refl _)
   | (with_reducible exact LeO.none _)
   | (with_reducible refine LeO.ite ?_ ?_)
   | (with_reducible refine LeO.bind ?_ (fun _ => ?_))
   | exact ih0 _ _ _ _
   | exact LeO.none _
   | refine LeO.ite ?_ ?_
   | refine LeO.bind ?_ (fun _ => ?_)
theorem tangramref11_stands.mono : ∀ a0 a1 a2 k, LeO (tangramref11_stands.f k a0 a1 a2) (tangramref11_stands.f (k + 1) a0 a1 a2) := by
 intro a0 a1 a2 k
 have ih0 := tangramref11_stands.mono_l k
 unfold tangramref11_stands.f
 repeat' first
   | (with_reducible exact ih0 _ _ _ _)
   | (with_reducible exact LeO.refl _)
   | (with_reducible exact LeO.none _)
   | (with_reducible refine LeO.ite ?_ ?_)
   | (with_reducible refine LeO.bind ?_ (fun _ => ?_))
   | exact ih0 _ _ _ _
   | exact LeO.none _
   | refine LeO.ite ?_ ?_
   | refine LeO.bind ?_ (fun _ => ?_)
set_option maxHeartbeats 8000000 in
set_option maxRecDepth 100000 in
theorem tangramref11_stands.calls (k : Nat) (A0 : Option Addr) (c0 : Nat) (l0 : List Int) (a1 : Int) (a2 : Int) (r : Bool) (w : World) (hr0 : Kd.C (Kd.int .i64) w A0 l0.length l0) (hc0 : l0.length ≤ c0) (h : tangramref11_stands.f k l0 a1 a2 = some r) :
  Calls Try.prog 50 #[.slice A0 l0.length c0, .int .i64 a1, .int .i64 a2] w fun e w' => e = .returned (.bool r) ∧ Drawn0 w w' := by
 have HR0 := Aside0.mk hr0
 have HC0 := Aside0.mk hc0
 clear hr0 hc0
 have H : (tangramref11_stands.l0 k l0 a1 a2 0) = some r := h
 clear h
 have H' := Aside0.mk H
 clear H
 go_enter Try.func50, Try.ntmps50
 go_wp2
 go_loopg [7] k (fun kq v7 w' => ∃ (x7_1 : Int), v7 = .int .i64 x7_1 ∧ Aside0 (tangramref11_stands.l0 kq l0 a1 a2 x7_1 = some r) ∧ Aside0 (kq ≤ k) ∧ Drawn0 w w')
 case atStart => exact ⟨(0), (by first | rfl | (simp; done) | (simp [*]; done)), H', ⟨Nat.le_refl _⟩, by repeat (first | exact Drawn0.refl _ | apply Drawn0.step)⟩
 case round =>
  clear H'
  try clear p2
  obtain ⟨x7_1, rfl, HA, HK1, ⟨m1, rfl⟩⟩ := hrel
  cases gk with
  | zero => exact absurd HA.out (by simp [tangramref11_stands.l0])
  | succ k1 =>
   have H := HA.out
   clear HA
   simp only [tangramref11_stands.l0] at H
   by_cases c4 : x7_1 < a1
   ·rw [if_pos c4] at H
    have c4b0 : decide (x7_1 < a1) = true := decide_eq_true c4
    clear c4
    by_cases c5 : 0 ≤ x7_1
    ·rw [if_pos c5] at H
     have c5b0 : decide (0 ≤ x7_1) = true := decide_eq_true c5
     clear c5
     by_cases c6 : x7_1 < (l0.length : Int)
     ·rw [if_pos c6] at H
      have c6b0 : decide (x7_1 < (l0.length : Int)) = true := decide_eq_true c6
      clear c6
      by_cases c7 : (rd l0 x7_1) = a2
      ·rw [if_pos c7] at H
       have c7b0 : ((rd l0 x7_1) == a2) = true := beq_iff_eq.mpr c7
       have c7b1 : ((rd l0 x7_1) != a2) = false := bne_eq_false_iff_eq.mpr c7
       clear c7
       obtain rfl := Option.some.inj H
       have p291 : 0 ≤ (x7_1 : Int) := of_decide_eq_true (by first | (with_reducible assumption) | assumption)
       have q291 : x7_1 < (l0.length : Int) := of_decide_eq_true (by first | (with_reducible assumption) | assumption)
       obtain ⟨ad291, e291, hx291_0⟩ := Kd.at_int HR0.out x7_1 p291 q291
       cases e291
       replace p291 := eq_true p291
       replace q291 := eq_true q291
       go_wp2
       go_ret
       exact ⟨by first | rfl | (simp; done) | (simp [*]; done), by repeat (first | exact Drawn0.refl _ | apply Drawn0.step)⟩
      ·rw [if_neg c7] at H
       have c7b0 : ((rd l0 x7_1) == a2) = false := beq_eq_false_iff_ne.mpr c7
       have c7b1 : ((rd l0 x7_1) != a2) = true := bne_iff_ne.mpr c7
       have H' := Aside0.mk H
       clear H
       have p291 : 0 ≤ (x7_1 : Int) := of_decide_eq_true (by first | (with_reducible assumption) | assumption)
       have q291 : x7_1 < (l0.length : Int) := of_decide_eq_true (by first | (with_reducible assumption) | assumption)
       obtain ⟨ad291, e291, hx291_0⟩ := Kd.at_int HR0.out x7_1 p291 q291
       cases e291
       replace p291 := eq_true p291
       replace q291 := eq_true q291
       go_wp2
       go_roundg k1
       case measure => have := HK1.out; omega
       case rel => exact ⟨(wrap64 (x7_1 + 1)), (by first | rfl | (simp; done) | (simp [*]; done)), H', ⟨by have := HK1.out; omega⟩, by repeat (first | exact Drawn0.refl _ | apply Drawn0.step)⟩
     ·rw [if_neg c6] at H
      exact absurd H (by simp)
    ·rw [if_neg c5] at H
     exact absurd H (by simp)
   ·rw [if_neg c4] at H
    have c4b0 : decide (x7_1 < a1) = false := decide_eq_false c4
    clear c4
    obtain rfl := Option.some.inj H
    go_wp2
    go_ret
    exact ⟨by first | rfl | (simp; done) | (simp [*]; done), by repeat (first | exact Drawn0.refl _ | apply Drawn0.step)⟩
end Go.Proofs.Yteeihjpnhjnknaa.GAll
namespace Go.Proofs.Yteeihjpnhjnknaa.GAll
open Go.RowKit Go.Proofs.YteeihjpnhjnknaaW.PrintWords Go.Proofs.YteeihjpnhjnknaaW.PrintLast Go.Proofs.YteeihjpnhjnknaaW.PrintMore
attribute [local go_sem] max2_int min2_int max_two min_two max_three min_three max_four min_four   -- for this text's walks alone
set_option linter.unusedVariables false
set_option linter.unusedSimpArgs false
def tangramref11_degree.l0 : Nat → Int → Int → Int → Int → List (S89) → Option (Int)
 | 0, _, _, _, _, _ => none
 | k + 1, x1, x5, x6, x293000, x293001 => if x6 < (wrap64 (2 * (x293001.length : Int))) then ((tangramref11_From.f x293000 x293001 x6).bind fun t293 => (if t293 = x1 then (tangramref11_degree.l0 k x1 (wrap64 (x5 + 1)) (wrap64 (x6 + 1)) x293000 x293001) else (tangramref11_degree.l0 k x1 x5 (wrap64 (x6 + 1)) x293000 x293001))) else (some x5)
def tangramref11_degree.f (k : Nat) (a0_0 : Int) (l0_1 : List (S89)) (a1 : Int) : Option (Int) := tangramref11_degree.l0 k a1 0 0 a0_0 l0_1
theorem tangramref11_degree.mono_l : ∀ k, (∀ y0 y1 y2 y3 y4, LeO (tangramref11_degree.l0 k y0 y1 y2 y3 y4) (tangramref11_degree.l0 (k + 1) y0 y1 y2 y3 y4))
 | 0 => fun _ _ _ _ _ r h => by simp [tangramref11_degree.l0] at h
 | k + 1 => by
  have ih0 := tangramref11_degree.mono_l k
  ·intro y0 y1 y2 y3 y4
   unfold tangramref11_degree.l0
   repeat' first
   | (with_reducible exact ih0 _ _ _ _ _)
   | (with_reducible exact LeO.refl _)
   | (with_reducible exact LeO.none _)
   | (with_reducible refine LeO.ite ?_ ?_)
   | (with_reducible refine LeO.bind ?_ (fun _ => ?_))
   | exact ih0 _ _ _ _ _
   | exact LeO.none _
   | refine LeO.ite ?_ ?_
   | refine LeO.bind ?_ (fun _ => ?_)
theorem tangramref11_degree.mono : ∀ a0 a1 a2 k, LeO (tangramref11_degree.f k a0 a1 a2) (tangramref11_degree.f (k + 1) a0 a1 a2) := by
 intro a0 a1 a2 k
 have ih0 := tangramref11_degree.mono_l k
 unfold tangramref11_degree.f
 repeat' first
   | (with_reducible exact ih0 _ _ _ _ _)
   | (with_reducible exact LeO.refl _)
   | (with_reducible exact LeO.none _)
   | (with_reducible refine LeO.ite ?_ ?_)
   | (with_reducible refine LeO.bind ?_ (fun _ => ?_))
   | exact ih0 _ _ _ _ _
   | exact LeO.none _
   | refine LeO.ite ?_ ?_
   | refine LeO.bind ?_ (fun _ => ?_)
set_option maxHeartbeats 8000000 in
set_option maxRecDepth 100000 in
theorem tangramref11_degree.calls (k : Nat) (a0_0 : Int) (A0_1 : Option Addr) (c0_1 : Nat) (l0_1 : List (S89)) (a1 : Int) (r : Int) (w : World) (hr0_1 : Kd.C k89 w A0_1 l0_1.length l0_1) (hc0_1 : l0_1.length ≤ c0_1) (h : tangramref11_degree.f k a0_0 l0_1 a1 = some r) :
  Calls Try.prog 51 #[.agg #[.int .i64 a0_0, .slice A0_1 l0_1.length c0_1], .int .i64 a1] w fun e w' => e = .returned (.int .i64 r) ∧ Below w.heap.size w w' := by
 have hu24 := Try.underlying24
 have HR0_1 := Aside0.mk hr0_1
 have HC0_1 := Aside0.mk hc0_1
 clear hr0_1 hc0_1
 have HB := Aside0.mk (Below.refl w.heap.size w)
 have H : (tangramref11_degree.l0 k a1 0 0 a0_0 l0_1) = some r := h
 clear h
 have H' := Aside0.mk H
 clear H
 go_enter Try.func51, Try.ntmps51
 go_wp2_with (first | ((with_reducible refine gate_dst (N := 2) rfl ?_); refine box_event ?hg (N := 2) ?hd (cs := #[.int .i64 a0_0, .slice A0_1 l0_1.length c0_1]) (t := 24) ?hr ?_; (case hd => rfl); (case hg => rfl); (case hr => first | (go_simp; done) | (go_simp; rfl)); intro gb292 hg w3 hbox hb; have n0_ := Aside0.mk (below_step (by repeat (first | (with_reducible first | exact HB.out | apply below_alloc | apply pw_below_drewN | apply below_drew1) | exact HB.out)) hb); have n1_ := Aside0.mk (hbox); have n2_ := Aside0.mk ((by rw [hg]; exact (below_size (by repeat (first | (with_reducible first | exact HB.out | apply below_alloc | apply pw_below_drewN | apply below_drew1) | exact HB.out))) : w.heap.size ≤ gb292)); have n3_ := Aside0.mk ((by rw [hg]; exact (below_size (by repeat (first | (with_reducible first | exact HB.out | apply below_alloc | apply pw_below_drewN | apply below_drew1) | exact HB.out))) : w.heap.size ≤ gb292)); clear HB; have HB := n0_; have BK292 := n1_; have GW292 := n2_; have GE292 := n3_; clear n0_ n1_ n2_ n3_; clear hb hbox hg))
 go_loopg [5, 6] k (fun kq v5 v6 w' => ∃ (x5_1 : Int) (x6_1 : Int), v5 = .int .i64 x5_1 ∧ v6 = .int .i64 x6_1 ∧ Aside0 (tangramref11_degree.l0 kq a1 x5_1 x6_1 a0_0 l0_1 = some r) ∧ Aside0 (kq ≤ k) ∧ Aside0 (w'.heap[gb292]? = some (.cells #[.int .i64 a0_0, (.slice A0_1 l0_1.length c0_1)] 24 (0, 0))) ∧ Aside0 (Below w.heap.size w w'))
 case atStart => exact ⟨(0), (0), (by first | rfl | (simp; done) | (simp [*]; done)), (by first | rfl | (simp; done) | (simp [*]; done)), H', ⟨Nat.le_refl _⟩, ⟨by (with_reducible repeat (first | refine blk_drewN ?_ _ | refine blk_drew ?_ | refine blk_alloc ?_ _)); exact BK292.out⟩, ⟨by repeat (first | (with_reducible first | exact HB.out | apply below_alloc | apply pw_below_drewN | apply below_drew1 | refine below_set ?_ GE292.out) | exact HB.out)⟩⟩
 case round =>
  clear H'
  try clear p2
  obtain ⟨x5_1, x6_1, rfl, rfl, HA, HK1, BK292, HB⟩ := hrel
  cases gk with
  | zero => exact absurd HA.out (by simp [tangramref11_degree.l0])
  | succ k1 =>
   have H := HA.out
   clear HA
   simp only [tangramref11_degree.l0] at H
   by_cases c4 : x6_1 < (wrap64 (2 * (l0_1.length : Int)))
   ·rw [if_pos c4] at H
    have c4b0 : decide (x6_1 < (wrap64 (2 * (l0_1.length : Int)))) = true := decide_eq_true c4
    clear c4
    replace H := Option.bind_eq_some_iff.mp H
    obtain ⟨t293, A50, H⟩ := H
    replace H : (if t293 = a1 then (tangramref11_degree.l0 k1 a1 (wrap64 (x5_1 + 1)) (wrap64 (x6_1 + 1)) a0_0 l0_1) else (tangramref11_degree.l0 k1 a1 x5_1 (wrap64 (x6_1 + 1)) a0_0 l0_1)) = some r := H
    have A5 := Aside0.mk A50
    clear A50
    by_cases c6 : t293 = a1
    ·rw [if_pos c6] at H
     have c6b0 : (t293 == a1) = true := beq_iff_eq.mpr c6
     have c6b1 : (t293 != a1) = false := bne_eq_false_iff_eq.mpr c6
     clear c6
     have H' := Aside0.mk H
     clear H
     have hcz7_0 : wr.cell? ⟨gb292, 0, none⟩ = some (.int .i64 a0_0) := (blk_cell BK292.out 0).trans rfl
     have hcz7_1 : wr.cell? ⟨gb292, 1, none⟩ = some (.slice A0_1 l0_1.length c0_1) := (blk_cell BK292.out 1).trans rfl
     have hfz7_0 := blk_frozen BK292.out 0
     have hfz7_1 := blk_frozen BK292.out 1
     go_wp2_with (first | ((with_reducible refine gate_callee (f := 45) rfl ?_); refine goesL_ (some 17) rfl rfl Try.func45 (by kernel_rfl) rfl #[.agg #[.int .i64 a0_0, .slice A0_1 l0_1.length c0_1], .int .i64 x6_1] rfl (by (try simp only [List.map_toArray, List.map_cons, List.map_nil]); first | done | rfl | (simp only [List.length_drop, List.length_take]; rfl)) ?_; (with_reducible refine (tangramref11_From.calls a0_0 _ _ l0_1 x6_1 t293 _ ?side1 ?side2 A5.out).mono ?_); (case side1 => repeat (first | exact (Kd.C_below HR0_1.out HB.out) | (with_reducible refine Kd.C_alloc ?_ _) | (with_reducible refine Kd.C_drewN ?_ _) | (with_reducible refine Kd.C_drew ?_))); (case side2 => exact HC0_1.out); rintro e w8 ⟨rfl, hb⟩; refine ⟨_, rfl, ?_⟩; have n0_ := Aside0.mk (blk_below (g := gb292) (o := .cells #[.int .i64 a0_0, .slice A0_1 l0_1.length c0_1] 24 (0, 0)) (by (with_reducible repeat (first | refine blk_drewN ?_ _ | refine blk_drew ?_ | refine blk_alloc ?_ _)); exact BK292.out) hb); have n1_ := Aside0.mk (below_step (by repeat (first | (with_reducible first | exact HB.out | apply below_alloc | apply pw_below_drewN | apply below_drew1 | refine below_set ?_ GE292.out) | exact HB.out)) hb); clear BK292; clear HB; have BK292 := n0_; have HB := n1_; clear n0_ n1_; (try clear hb); (try clear hb2); (try clear hk); (try clear hi)))
     go_roundg k1
     case measure => have := HK1.out; omega
     case rel => exact ⟨(wrap64 (x5_1 + 1)), (wrap64 (x6_1 + 1)), (by first | rfl | (simp; done) | (simp [*]; done)), (by first | rfl | (simp; done) | (simp [*]; done)), H', ⟨by have := HK1.out; omega⟩, ⟨by (with_reducible repeat (first | refine blk_drewN ?_ _ | refine blk_drew ?_ | refine blk_alloc ?_ _)); exact BK292.out⟩, ⟨by repeat (first | (with_reducible first | exact HB.out | apply below_alloc | apply pw_below_drewN | apply below_drew1 | refine below_set ?_ GE292.out) | exact HB.out)⟩⟩
    ·rw [if_neg c6] at H
     have c6b0 : (t293 == a1) = false := beq_eq_false_iff_ne.mpr c6
     have c6b1 : (t293 != a1) = true := bne_iff_ne.mpr c6
     have H' := Aside0.mk H
     clear H
     have hcz9_0 : wr.cell? ⟨gb292, 0, none⟩ = some (.int .i64 a0_0) := (blk_cell BK292.out 0).trans rfl
     have hcz9_1 : wr.cell? ⟨gb292, 1, none⟩ = some (.slice A0_1 l0_1.length c0_1) := (blk_cell BK292.out 1).trans rfl
     have hfz9_0 := blk_frozen BK292.out 0
     have hfz9_1 := blk_frozen BK292.out 1
     go_wp2_with (first | ((with_reducible refine gate_callee (f := 45) rfl ?_); refine goesL_ (some 17) rfl rfl Try.func45 (by kernel_rfl) rfl #[.agg #[.int .i64 a0_0, .slice A0_1 l0_1.length c0_1], .int .i64 x6_1] rfl (by (try simp only [List.map_toArray, List.map_cons, List.map_nil]); first | done | rfl | (simp only [List.length_drop, List.length_take]; rfl)) ?_; (with_reducible refine (tangramref11_From.calls a0_0 _ _ l0_1 x6_1 t293 _ ?side1 ?side2 A5.out).mono ?_); (case side1 => repeat (first | exact (Kd.C_below HR0_1.out HB.out) | (with_reducible refine Kd.C_alloc ?_ _) | (with_reducible refine Kd.C_drewN ?_ _) | (with_reducible refine Kd.C_drew ?_))); (case side2 => exact HC0_1.out); rintro e w10 ⟨rfl, hb⟩; refine ⟨_, rfl, ?_⟩; have n0_ := Aside0.mk (blk_below (g := gb292) (o := .cells #[.int .i64 a0_0, .slice A0_1 l0_1.length c0_1] 24 (0, 0)) (by (with_reducible repeat (first | refine blk_drewN ?_ _ | refine blk_drew ?_ | refine blk_alloc ?_ _)); exact BK292.out) hb); have n1_ := Aside0.mk (below_step (by repeat (first | (with_reducible first | exact HB.out | apply below_alloc | apply pw_below_drewN | apply below_drew1 | refine below_set ?_ GE292.out) | exact HB.out)) hb); clear BK292; clear HB; have BK292 := n0_; have HB := n1_; clear n0_ n1_; (try clear hb); (try clear hb2); (try clear hk); (try clear hi)))
     go_roundg k1
     case measure => have := HK1.out; omega
     case rel => exact ⟨(x5_1), (wrap64 (x6_1 + 1)), (by first | rfl | (simp; done) | (simp [*]; done)), (by first | rfl | (simp; done) | (simp [*]; done)), H', ⟨by have := HK1.out; omega⟩, ⟨by (with_reducible repeat (first | refine blk_drewN ?_ _ | refine blk_drew ?_ | refine blk_alloc ?_ _)); exact BK292.out⟩, ⟨by repeat (first | (with_reducible first | exact HB.out | apply below_alloc | apply pw_below_drewN | apply below_drew1 | refine below_set ?_ GE292.out) | exact HB.out)⟩⟩
   ·rw [if_neg c4] at H
    have c4b0 : decide (x6_1 < (wrap64 (2 * (l0_1.length : Int)))) = false := decide_eq_false c4
    clear c4
    obtain rfl := Option.some.inj H
    have hcz11_0 : wr.cell? ⟨gb292, 0, none⟩ = some (.int .i64 a0_0) := (blk_cell BK292.out 0).trans rfl
    have hcz11_1 : wr.cell? ⟨gb292, 1, none⟩ = some (.slice A0_1 l0_1.length c0_1) := (blk_cell BK292.out 1).trans rfl
    have hfz11_0 := blk_frozen BK292.out 0
    have hfz11_1 := blk_frozen BK292.out 1
    go_wp2
    go_ret
    exact ⟨by first | rfl | (simp [errW_none, errW_some] <;> rfl) | (simp [*, errW_none, errW_some] <;> rfl), by repeat (first | (with_reducible first | exact HB.out | apply below_alloc | apply pw_below_drewN | apply below_drew1 | refine below_set ?_ GE292.out) | exact HB.out)⟩
end Go.Proofs.Yteeihjpnhjnknaa.GAll
