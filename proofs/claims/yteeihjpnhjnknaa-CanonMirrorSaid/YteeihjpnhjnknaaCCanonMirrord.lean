/- DERIVED. Texts of this seat, one behind the other: lemmas and walks that the statement CanonMirror needs. No condition. -/
import Derived.Test.YteeihjpnhjnknaaCCanonMirrorc
import Derived.Test.YteeihjpnhjnknaaCCanonMirrora
import Derived.Test.YteeihjpnhjnknaaCCanonMirrorb
import Derived.SizedLaws
import Derived.ChangeSlices
import Derived.ProofKit
import Derived.OpenShut
import Derived.ChangeOld
import Derived.Deep.Slices
namespace Go.Proofs.Yteeihjpnhjnknaa.GAll
open Go.RowKit Go.Proofs.YteeihjpnhjnknaaW.PrintWords Go.Proofs.YteeihjpnhjnknaaW.PrintLast Go.Proofs.YteeihjpnhjnknaaW.PrintMore
attribute [local go_sem] max2_int min2_int max_two min_two max_three min_three max_four min_four   -- for this text's walks alone
set_option linter.unusedVariables false
set_option linter.unusedSimpArgs false
def tangramlaw21_copied.f (k : Nat) (a0_0 : Int) (l0_1 : List (S89)) (l0_2 : List (List Int)) : Option (Int × (List (S89)) × (List (List Int))) := (tangramref03_Copy.f k a0_0 l0_1).bind fun bt167 => ((tangramref11_Copy.f k l0_2).bind fun t171 => (some (bt167.1, bt167.2, t171)))
theorem tangramlaw21_copied.mono : ∀ a0 a1 a2 k, LeO (tangramlaw21_copied.f k a0 a1 a2) (tangramlaw21_copied.f (k + 1) a0 a1 a2) := by
 intro a0 a1 a2 k
 unfold tangramlaw21_copied.f
 repeat' first
     | (with_reducible exact tangramref03_Copy.mono _ _ _)
     | (with_reducible exact tangramref11_Copy.mono _ _)
     | (with_reducible exact LeO.refl _)
     | (with_reducible exact LeO.none _)
     | (with_reducible refine LeO.ite ?_ ?_)
     | (with_reducible refine LeO.bind ?_ (fun _ => ?_))
     | exact tangramref03_Copy.mono _ _ _
     | exact tangramref11_Copy.mono _ _
     | exact LeO.none _
     | refine LeO.ite ?_ ?_
     | refine LeO.bind ?_ (fun _ => ?_)
def tangramlaw21_copied.T1 : Bool × List (List Nat × List Nat) := (true, [([], []), ([0], [0]), ([1], [1]), ([], []), ([3], [3]), ([4, 2], [4]), ([2, 5, 0, 1, 2], [2]), ([5, 6, 0, 1, 2, 3, 4, 5, 6], [5])])
def tangramlaw21_copied.B1 : List Nat := [0, 1, 3, 0, 8, 31, 63, 127]
theorem tangramlaw21_copied.tab1 : rtab .any (opsOf Try.f12 1) = tangramlaw21_copied.T1 := by kernel_rfl
theorem tangramlaw21_copied.bits1 : waitsOk tangramlaw21_copied.T1.2 tangramlaw21_copied.B1 = true := by kernel_rfl
set_option maxHeartbeats 8000000 in
set_option maxRecDepth 100000 in
theorem tangramlaw21_copied.calls (k : Nat) (a0_0 : Int) (A0_1 : Option Addr) (c0_1 : Nat) (l0_1 : List (S89)) (A0_2 : Option Addr) (c0_2 : Nat) (l0_2 : List (List Int)) (r1 : Int) (r2 : List (S89)) (r3 : List (List Int)) (w : World) (hr0_1 : Kd.C k89 w A0_1 l0_1.length l0_1) (hc0_1 : l0_1.length ≤ c0_1) (hr0_2 : Kd.C (Kd.slice 3 (Kd.int .i64)) w A0_2 l0_2.length l0_2) (hc0_2 : l0_2.length ≤ c0_2) (h : tangramlaw21_copied.f k a0_0 l0_1 l0_2 = some (r1, r2, r3)) :
   Calls Try.prog 12 #[.agg #[.int .i64 a0_0, .slice A0_1 l0_1.length c0_1, .slice A0_2 l0_2.length c0_2]] w fun e w' => ∃ v1_ v2_ : Value, e = .returned (.tuple #[.agg #[.int .i64 r1, v1_], v2_]) ∧ Kd.R k89 89 w' w.heap.size (fun _ => True) v1_ r2 ∧ Kd.S (Kd.slice 3 (Kd.int .i64)) 32 w' w.heap.size (fun _ => True) v2_ r3 ∧ Below w.heap.size w w' := by
 have hu31 := Try.underlying31
 have hu24 := Try.underlying24
 have HR0_1 := Aside0.mk hr0_1
 have HC0_1 := Aside0.mk hc0_1
 clear hr0_1 hc0_1
 have HR0_2 := Aside0.mk hr0_2
 have HC0_2 := Aside0.mk hc0_2
 clear hr0_2 hc0_2
 have HB := Aside0.mk (Below.refl w.heap.size w)
 have H : ((tangramref03_Copy.f k a0_0 l0_1).bind fun bt167 => ((tangramref11_Copy.f k l0_2).bind fun t171 => (some (bt167.1, bt167.2, t171)))) = some (r1, r2, r3) := h
 clear h
 replace H := Option.bind_eq_some_iff.mp H
 obtain ⟨⟨t167, t168⟩, A20, H⟩ := H
 replace H : ((tangramref11_Copy.f k l0_2).bind fun t171 => (some (t167, t168, t171))) = some (r1, r2, r3) := H
 have A2 := Aside0.mk A20
 clear A20
 replace H := Option.bind_eq_some_iff.mp H
 obtain ⟨t171, A30, H⟩ := H
 replace H : (some (t167, t168, t171)) = some (r1, r2, r3) := H
 have A3 := Aside0.mk A30
 clear A30
 simp only [Option.some.injEq, Prod.mk.injEq] at H
 obtain ⟨rfl, rfl, rfl⟩ := H
 go_enter Try.func12, Try.ntmps12
 try go_wp2_with (first | ((with_reducible refine gate_dst (N := 1) rfl ?_); refine box_event ?hg (N := 1) ?hd (cs := #[.int .i64 a0_0, .slice A0_1 l0_1.length c0_1, .slice A0_2 l0_2.length c0_2]) (t := 31) ?hr ?_; (case hd => rfl); (case hg => rfl); (case hr => first | (go_simp; done) | (go_simp; rfl)); intro gb165 hg w4 hbox hb; have n0_ := Aside0.mk (below_step (by repeat (first | (with_reducible first | exact HB.out | apply below_alloc | apply pw_below_drewN | apply below_drew1) | exact HB.out)) hb); have n1_ := Aside0.mk (hbox); have n2_ := Aside0.mk ((by rw [hg]; exact (below_size (by repeat (first | (with_reducible first | exact HB.out | apply below_alloc | apply pw_below_drewN | apply below_drew1) | exact HB.out))) : w.heap.size ≤ gb165)); have n3_ := Aside0.mk ((by rw [hg]; exact (below_size (by repeat (first | (with_reducible first | exact HB.out | apply below_alloc | apply pw_below_drewN | apply below_drew1) | exact HB.out))) : w.heap.size ≤ gb165)); clear HB; have HB := n0_; have BK165 := n1_; have GW165 := n2_; have GE165 := n3_; clear n0_ n1_ n2_ n3_; clear hb hbox hg) | ((with_reducible refine gate_dst (N := 2) rfl ?_); refine box_event ?hg (N := 2) ?hd (cs := #[.int .i64 0, .slice none 0 0]) (t := 24) ?hr ?_; (case hd => rfl); (case hg => rfl); (case hr => first | (go_simp; done) | (go_simp; rfl)); intro gb166 hg w5 hbox hb; have n0_ := Aside0.mk (blk_below (g := gb165) (o := .cells #[.int .i64 a0_0, .slice A0_1 l0_1.length c0_1, .slice A0_2 l0_2.length c0_2] 31 (0, 0)) (by (with_reducible repeat (first | refine blk_drewN ?_ _ | refine blk_drew ?_ | refine blk_alloc ?_ _)); exact BK165.out) hb); have n1_ := Aside0.mk (below_step (by repeat (first | (with_reducible first | exact HB.out | apply below_alloc | apply pw_below_drewN | apply below_drew1 | refine below_set ?_ GE165.out) | exact HB.out)) hb); have n2_ := Aside0.mk (hbox); have n3_ := Aside0.mk ((by rw [hg]; exact (below_size (by repeat (first | (with_reducible first | exact HB.out | apply below_alloc | apply pw_below_drewN | apply below_drew1 | refine below_set ?_ GE165.out) | exact HB.out))) : w.heap.size ≤ gb166)); have n4_ := Aside0.mk ((by rw [hg]; exact (below_size (by repeat (first | (with_reducible first | exact HB.out | apply below_alloc | apply pw_below_drewN | apply below_drew1 | refine below_set ?_ GE165.out) | exact HB.out))) : w.heap.size ≤ gb166)); have n5_ := Aside0.mk ((by rw [hg]; exact Nat.ne_of_lt (blk_lt (g := gb165) (o := .cells #[.int .i64 a0_0, .slice A0_1 l0_1.length c0_1, .slice A0_2 l0_2.length c0_2] 31 (0, 0)) (by (with_reducible repeat (first | refine blk_drewN ?_ _ | refine blk_drew ?_ | refine blk_alloc ?_ _)); exact BK165.out)) : gb165 ≠ gb166)); have n6_ := Aside0.mk ((by rw [hg]; exact Nat.ne_of_gt (blk_lt (g := gb165) (o := .cells #[.int .i64 a0_0, .slice A0_1 l0_1.length c0_1, .slice A0_2 l0_2.length c0_2] 31 (0, 0)) (by (with_reducible repeat (first | refine blk_drewN ?_ _ | refine blk_drew ?_ | refine blk_alloc ?_ _)); exact BK165.out)) : gb166 ≠ gb165)); clear BK165; clear HB; have BK165 := n0_; have HB := n1_; have BK166 := n2_; have GW166 := n3_; have GE166 := n4_; have NB165_166 := n5_; have NB166_165 := n6_; clear n0_ n1_ n2_ n3_ n4_ n5_ n6_; clear hb hbox hg))
 have n0_ := Aside0.mk (blk_drew BK165.out)
 have n1_ := Aside0.mk (blk_drew BK166.out)
 have n2_ := Aside0.mk (below_drew1 HB.out)
 clear BK165
 clear BK166
 clear HB
 have BK165 := n0_
 have BK166 := n1_
 have HB := n2_
 clear n0_ n1_ n2_
 refine start_ (n := 8) (S := fun w' => w'.cell? ⟨gb165, 0, none⟩ = some (.int .i64 a0_0) ∧ w'.cell? ⟨gb165, 1, none⟩ = some (.slice A0_1 l0_1.length c0_1) ∧ w'.cell? ⟨gb165, 2, none⟩ = some (.slice A0_2 l0_2.length c0_2)) (ds := []) #[false, false, false, false, false, false, false, false] (by kernel_rfl) rfl rfl ⟨(blk_cell BK165.out 0).trans rfl, (blk_cell BK165.out 1).trans rfl, (blk_cell BK165.out 2).trans rfl⟩ (fun hHeld => ?_); refine with_tabW tangramlaw21_copied.tab1 tangramlaw21_copied.bits1 (fun HT_ HW_ => ?_)
 generalize w5.drew = w6 at BK165 BK166 HB hHeld ⊢
 refine pure_ (i := 0) (N := some 4) (v := ?_) (a' := ?_) #[true, false, false, false, false, false, false, false] rfl rfl (any_of HT_.out (by kernel_rfl)) (fun _ _ _ h => h) (Or.inl ⟨by rfl, ?_⟩) ?_ ?_
 rotate_left
 · intro w'
   go_simp
   with_reducible rfl
 rotate_left
 · simp only [Act.put, List.setIfInBounds_toArray, List.set_cons_zero, List.set_cons_succ, i64_w, i32_w]
   rfl
 refine pure_ (i := 3) (N := some 7) (v := ?_) (a' := ?_) #[true, false, false, true, false, false, false, false] rfl rfl (any_of HT_.out (by kernel_rfl)) (fun _ _ _ h => h) (Or.inl ⟨by rfl, ?_⟩) ?_ ?_
 rotate_left
 · intro w'
   go_simp
   with_reducible rfl
 rotate_left
 · simp only [Act.put, List.setIfInBounds_toArray, List.set_cons_zero, List.set_cons_succ, i64_w, i32_w]
   rfl
 refine take_ (i := 1) (N := some 5) (v := ?_) (a' := ?_) #[true, true, false, true, false, false, false, false] rfl rfl (take_ofW HT_.out HW_.out (by kernel_rfl)) (fun _ _ _ h => h) (Or.inl ⟨by rfl, ?_⟩) hHeld ?_ ?_
 rotate_left
 · rintro w' ⟨s0, s1, s2⟩
   go_simp
   with_reducible rfl
 rotate_left
 · simp only [Act.put, List.setIfInBounds_toArray, List.set_cons_zero, List.set_cons_succ, i64_w, i32_w]
   rfl
 refine take_ (i := 4) (N := some 8) (v := ?_) (a' := ?_) #[true, true, false, true, true, false, false, false] rfl rfl (take_ofW HT_.out HW_.out (by kernel_rfl)) (fun _ _ _ h => h) (Or.inl ⟨by rfl, ?_⟩) hHeld ?_ ?_
 rotate_left
 · rintro w' ⟨s0, s1, s2⟩
   go_simp
   with_reducible rfl
 rotate_left
 · simp only [Act.put, List.setIfInBounds_toArray, List.set_cons_zero, List.set_cons_succ, i64_w, i32_w]
   rfl
 refine one_ (i := 2) (N := some 6) #[true, true, true, true, true, false, false, false] rfl rfl (one_of HT_.out (by kernel_rfl)) (by decide) (fun K hK => ?_)
 refine goes_ Try.func30 (by kernel_rfl) rfl #[.agg #[.int .i64 a0_0, .slice A0_1 l0_1.length c0_1]] (by rfl) rfl rfl (by (try simp only [List.map_toArray, List.map_cons, List.map_nil]); first | done | rfl | (simp only [List.length_drop, List.length_take]; rfl)) ?_
 with_reducible refine (tangramref03_Copy.calls k a0_0 _ _ l0_1 t167 t168 _ ?side1 ?side2 A2.out).mono ?_
 (case side1 => repeat (first | exact (Kd.C_below HR0_1.out HB.out) | (with_reducible refine Kd.C_alloc ?_ _) | (with_reducible refine Kd.C_drewN ?_ _) | (with_reducible refine Kd.C_drew ?_)))
 (case side2 => exact HC0_1.out)
 rintro e w7 ⟨v169, rfl, ho0, hb⟩
 refine ⟨_, rfl, ?_⟩
 have n0_ := Aside0.mk (Kd.R_lower ho0 (below_size (by repeat (first | (with_reducible first | exact HB.out | apply below_alloc | apply pw_below_drewN | apply below_drew1 | refine below_set ?_ GE165.out | refine below_set ?_ GE166.out) | exact HB.out))))
 have n1_ := Aside0.mk (blk_below (g := gb165) (o := .cells #[.int .i64 a0_0, .slice A0_1 l0_1.length c0_1, .slice A0_2 l0_2.length c0_2] 31 (0, 0)) (by (with_reducible repeat (first | refine blk_drewN ?_ _ | refine blk_drew ?_ | refine blk_alloc ?_ _)); exact BK165.out) hb)
 have n2_ := Aside0.mk (blk_below (g := gb166) (o := .cells #[.int .i64 0, .slice none 0 0] 24 (0, 0)) (by (with_reducible repeat (first | refine blk_drewN ?_ _ | refine blk_drew ?_ | refine blk_alloc ?_ _)); exact BK166.out) hb)
 have n3_ := Aside0.mk (below_step (by repeat (first | (with_reducible first | exact HB.out | apply below_alloc | apply pw_below_drewN | apply below_drew1 | refine below_set ?_ GE165.out | refine below_set ?_ GE166.out) | exact HB.out)) hb)
 clear BK165
 clear BK166
 clear HB
 have HO170 := n0_
 have BK165 := n1_
 have BK166 := n2_
 have HB := n3_
 clear n0_ n1_ n2_ n3_
 (try clear hb)
 (try clear hb2)
 (try clear hk)
 (try clear hi)
 (try clear ho0)
 refine hK.out _ _ ⟨(blk_cell BK165.out 0).trans rfl, (blk_cell BK165.out 1).trans rfl, (blk_cell BK165.out 2).trans rfl⟩ (fun hHeld => ?_)
 clear hK K
 refine norm_ (a' := ?_) ?_ ?_
 rotate_left
 · show Act.put _ (some 6) _ = _
   simp only [Act.put, List.setIfInBounds_toArray, List.set_cons_zero, List.set_cons_succ, i64_w, i32_w]
   rfl
 refine one_ (i := 5) (N := some 9) #[true, true, true, true, true, true, false, false] rfl rfl (one_of HT_.out (by kernel_rfl)) (by decide) (fun K hK => ?_)
 refine goes_ Try.func35 (by kernel_rfl) rfl #[.slice A0_2 l0_2.length c0_2] (by rfl) rfl rfl (by (try simp only [List.map_toArray, List.map_cons, List.map_nil]); first | done | rfl | (simp only [List.length_drop, List.length_take]; rfl)) ?_
 with_reducible refine (tangramref11_Copy.calls k _ _ l0_2 t171 _ ?side1 ?side2 A3.out).mono ?_
 (case side1 => repeat (first | exact (Kd.C_below HR0_2.out HB.out) | (with_reducible refine Kd.C_alloc ?_ _) | (with_reducible refine Kd.C_drewN ?_ _) | (with_reducible refine Kd.C_drew ?_)))
 (case side2 => exact HC0_2.out)
 rintro e w8 ⟨v172, rfl, ho0, hb⟩
 refine ⟨_, rfl, ?_⟩
 have n0_ := Aside0.mk (Kd.R_below (by (with_reducible repeat (first | apply Kd.R_alloc | apply Kd.R_drewN | apply Kd.R_drew)); exact HO170.out) hb)
 have n1_ := Aside0.mk (Kd.S_lower ho0 (below_size (by repeat (first | (with_reducible first | exact HB.out | apply below_alloc | apply pw_below_drewN | apply below_drew1 | refine below_set ?_ GE165.out | refine below_set ?_ GE166.out) | exact HB.out))))
 have n2_ := Aside0.mk (blk_below (g := gb165) (o := .cells #[.int .i64 a0_0, .slice A0_1 l0_1.length c0_1, .slice A0_2 l0_2.length c0_2] 31 (0, 0)) (by (with_reducible repeat (first | refine blk_drewN ?_ _ | refine blk_drew ?_ | refine blk_alloc ?_ _)); exact BK165.out) hb)
 have n3_ := Aside0.mk (blk_below (g := gb166) (o := .cells #[.int .i64 0, .slice none 0 0] 24 (0, 0)) (by (with_reducible repeat (first | refine blk_drewN ?_ _ | refine blk_drew ?_ | refine blk_alloc ?_ _)); exact BK166.out) hb)
 have n4_ := Aside0.mk (below_step (by repeat (first | (with_reducible first | exact HB.out | apply below_alloc | apply pw_below_drewN | apply below_drew1 | refine below_set ?_ GE165.out | refine below_set ?_ GE166.out) | exact HB.out)) hb)
 clear HO170
 clear BK165
 clear BK166
 clear HB
 have HO170 := n0_
 have HO173 := n1_
 have BK165 := n2_
 have BK166 := n3_
 have HB := n4_
 clear n0_ n1_ n2_ n3_ n4_
 (try clear hb)
 (try clear hb2)
 (try clear hk)
 (try clear hi)
 (try clear ho0)
 obtain ⟨Ao10, co10, eo10⟩ := Kd.R_slice HO170.out
 (first | subst eo10 | (injection eo10 with f1_ f2_ f3_; have f4_ := f1_.symm; have f5_ := f3_.symm; clear f1_ f2_ f3_; subst f4_; subst f5_))
 refine hK.out _ _ ⟨(blk_cell BK165.out 0).trans rfl, (blk_cell BK165.out 1).trans rfl, (blk_cell BK165.out 2).trans rfl⟩ (fun hHeld => ?_)
 clear hK K
 refine norm_ (a' := ?_) ?_ ?_
 rotate_left
 · show Act.put _ (some 9) _ = _
   simp only [Act.put, List.setIfInBounds_toArray, List.set_cons_zero, List.set_cons_succ, i64_w, i32_w]
   rfl
 refine one_ (i := 6) (N := none) #[true, true, true, true, true, true, true, false] rfl rfl (one_of HT_.out (by kernel_rfl)) (by decide) (fun K hK => ?_)
 have hs9 : w8.cell? ⟨gb166, 0, none⟩ = some (.int .i64 0) := (blk_cell BK166.out 0).trans rfl
 have hfs9 := blk_frozen BK166.out 0
 have hns9_0 := NB165_166.out
 have hms9_0 := NB166_165.out
 have hs11 : w8.cell? ⟨gb166, 1, none⟩ = some (.slice none 0 0) := (blk_cell BK166.out 1).trans rfl
 have hfs11 := blk_frozen BK166.out 1
 have hns11_0 := NB165_166.out
 have hms11_0 := NB166_165.out
 refine skip_ (w1 := ?_) (by rfl) rfl ?_ ?_
 rotate_left
 · go_simp
   rfl
 refine hK.out _ _ ⟨((cell_far (p := ⟨gb166, _, none⟩) NB165_166.out _).trans (((cell_far (p := ⟨gb166, _, none⟩) NB165_166.out _).trans (hHeld.1)))), ((cell_far (p := ⟨gb166, _, none⟩) NB165_166.out _).trans (((cell_far (p := ⟨gb166, _, none⟩) NB165_166.out _).trans (hHeld.2.1)))), ((cell_far (p := ⟨gb166, _, none⟩) NB165_166.out _).trans (((cell_far (p := ⟨gb166, _, none⟩) NB165_166.out _).trans (hHeld.2.2))))⟩ (fun hHeld => ?_)
 clear hK K
 refine pure_ (i := 7) (N := some 3) (v := ?_) (a' := ?_) #[true, true, true, true, true, true, true, true] rfl rfl (any_of HT_.out (by kernel_rfl)) (fun _ _ _ h => h) (Or.inl ⟨by rfl, ?_⟩) ?_ ?_
 rotate_left
 · intro w'
   go_simp
   with_reducible rfl
 rotate_left
 · simp only [Act.put, List.setIfInBounds_toArray, List.set_cons_zero, List.set_cons_succ, i64_w, i32_w]
   rfl
 refine done_ (done_of HT_.out (by kernel_rfl)) ?_
 try go_wp2
 refine bodyPost_ret (results_ct rfl _ _ gb166 24 #[.int .i64 t167, .slice Ao10 t168.length co10] (0, 0) _ rfl (by (with_reducible repeat (first | refine blk_drewN ?_ _ | refine blk_drew ?_ | refine blk_alloc ?_ _)); refine blk_put (cs := #[.int .i64 t167, .slice none 0 0]) ?_ 1 _ rfl; (with_reducible repeat (first | refine blk_drewN ?_ _ | refine blk_drew ?_ | refine blk_alloc ?_ _)); refine blk_put (cs := #[.int .i64 0, .slice none 0 0]) ?_ 0 _ rfl; (with_reducible repeat (first | refine blk_drewN ?_ _ | refine blk_drew ?_ | refine blk_alloc ?_ _)); exact BK166.out) Try.underlying24 rfl (by kernel_rfl)) rfl ?_
 exact ⟨_, _, by first | rfl | (simp [errW_none, errW_some] <;> rfl) | (simp [*, errW_none, errW_some] <;> rfl), by (with_reducible repeat (first | apply Kd.R_alloc | apply Kd.R_drewN | apply Kd.R_drew)); exact Kd.R_mono (Kd.R_far (p := ⟨gb166, 1, none⟩) (Kd.R_far (p := ⟨gb166, 0, none⟩) (Kd.R_types HO170.out BK166.out (by decide)) (fun _ hk => hk.2) (.int .i64 t167)) (fun _ hk => hk.2) (.slice Ao10 t168.length co10)) (fun _ hk => trivial), by (with_reducible repeat (first | apply Kd.S_alloc | apply Kd.S_drewN | apply Kd.S_drew)); exact Kd.S_mono (Kd.S_far (p := ⟨gb166, 1, none⟩) (Kd.S_far (p := ⟨gb166, 0, none⟩) (Kd.S_types HO173.out BK166.out (by decide)) (fun _ hk => hk.2) (.int .i64 t167)) (fun _ hk => hk.2) (.slice Ao10 t168.length co10)) (fun _ hk => trivial), by repeat (first | (with_reducible first | exact HB.out | apply below_alloc | apply pw_below_drewN | apply below_drew1 | refine below_set ?_ GE165.out | refine below_set ?_ GE166.out) | exact HB.out)⟩
end Go.Proofs.Yteeihjpnhjnknaa.GAll
namespace Go.Proofs.Yteeihjpnhjnknaa.Rot
open Go.RowKit Go.Proofs.YteeihjpnhjnknaaW.PrintWords Go.Proofs.YteeihjpnhjnknaaW.PrintLast Go.Proofs.YteeihjpnhjnknaaW.PrintMore Go.Proofs.Yteeihjpnhjnknaa.GAll Go.Proofs.Yteeihjpnhjnknaa.Mem Go.Proofs.Yteeihjpnhjnknaa.Seen
set_option linter.unusedVariables false
set_option linter.unusedSimpArgs false
theorem w1 {i : Nat} (h : i < 9223372036854775807) : wrap64 ((i : Int) + 1) = ((i + 1 : Nat) : Int) := by rw [IntWalk.wrap64_in _ (by omega)]; omega
theorem gi_get {l : List Int} {i : Nat} (h : i < l.length) : gi l i = l[i] := by unfold gi; rw [List.getD_eq_getElem?_getD, List.getElem?_eq_getElem h]; rfl
theorem ints_ev {a b : List Int} (hm : a.length ≤ 9000000000000000) : Ev (fun k => tangramref03_SameInts.f k a b) (decide (a = b)) := by
 by_cases h : a.length = b.length
 · have loop : ∀ (d i : Nat), i + d = a.length → a.take i = b.take i → Ev (fun k => tangramref03_SameInts.l0 k a b (i : Int)) (decide (a = b)) := by
     intro d
     induction d with
     | zero =>
       intro i hi ht
       rw [List.take_of_length_le (by omega), List.take_of_length_le (by omega)] at ht
       rw [decide_eq_true ht]
       refine Ev.step (f := fun _ => some true) (fun k => ?_) (Ev.now _)
       simp only [tangramref03_SameInts.l0]
       rw [if_neg (by omega)]
     | succ d ih =>
       intro i hi ht
       have hx : i < a.length := by omega
       have hy : i < b.length := by omega
       by_cases e : a[i] = b[i]
       · refine Ev.step (fun k => ?_) (ih (i + 1) (by omega) (by rw [List.take_succ_eq_append_getElem hx, List.take_succ_eq_append_getElem hy, ht, e]))
         simp only [tangramref03_SameInts.l0]
         rw [if_pos (by omega), if_pos (by omega), if_pos (by omega), gi_rd, gi_rd, gi_get hx, gi_get hy, if_pos e, w1 (by omega)]
       · rw [decide_eq_false (by rintro rfl; exact e rfl)]
         refine Ev.step (f := fun _ => some false) (fun k => ?_) (Ev.now _)
         simp only [tangramref03_SameInts.l0]
         rw [if_pos (by omega), if_pos (by omega), if_pos (by omega), gi_rd, gi_rd, gi_get hx, gi_get hy, if_neg e]
   have := loop a.length 0 (by omega) rfl
   unfold tangramref03_SameInts.f
   exact Ev.congr (fun k => if_pos (by omega)) this
 · rw [decide_eq_false (fun e => h (by rw [e]))]
   unfold tangramref03_SameInts.f
   exact Ev.congr (fun k => if_neg (by omega)) (Ev.now _)
theorem ints_same {a : List Int} (hm : a.length ≤ 9000000000000000) : Ev (fun k => tangramref03_SameInts.f k a a) true := by
 have := ints_ev (a := a) (b := a) hm
 rw [decide_eq_true rfl] at this
 exact this
theorem copy3_ev (n : Int) (l : List Ed) (hl : l.length ≤ 8796093022208) : Ev (fun k => tangramref03_Copy.f k n l) (n, l) := by
 have loop : ∀ (d i : Nat), i + d = l.length → Ev (fun k => tangramref03_Copy.l0 k (l.take i) (i : Int) n l) (n, l) := by
   intro d
   induction d with
   | zero =>
     intro i hi
     refine Ev.step (f := fun _ => some (n, l)) (fun k => ?_) (Ev.now _)
     simp only [tangramref03_Copy.l0]
     rw [if_neg (by omega), List.take_of_length_le (by omega)]
   | succ d ih =>
     intro i hi
     have hx : i < l.length := by omega
     refine Ev.step (fun k => ?_) (ih (i + 1) (by omega))
     simp only [tangramref03_Copy.l0]
     have e : PureV.rdE l (i : Nat) = l[i] := by
       show l.getD ((i : Int).toNat) _ = _
       rw [Int.toNat_natCast, List.getD_eq_getElem?_getD, List.getElem?_eq_getElem hx]
       rfl
     rw [if_pos (by omega), if_pos (by omega), if_pos (by rw [List.length_take]; omega), w1 (by omega), List.take_succ_eq_append_getElem hx]
     change tangramref03_Copy.l0 k (l.take i ++ [⟨(PureV.rdE l (i : Nat)).f0, (PureV.rdE l (i : Nat)).f1⟩]) _ n l = _
     rw [e]
 exact loop l.length 0 (by omega)
theorem copy11_ev (r : List (List Int)) (hs : Small r) : Ev (fun k => tangramref11_Copy.f k r) r := by
 have h1 := hs.1
 have loop : ∀ (d i : Nat), i + d = r.length → Ev (fun k => tangramref11_Copy.l0 k r (r.take i) (i : Int)) r := by
   intro d
   induction d with
   | zero =>
     intro i hi
     refine Ev.step (f := fun _ => some r) (fun k => ?_) (Ev.now _)
     simp only [tangramref11_Copy.l0]
     rw [if_neg (by omega), List.take_of_length_le (by omega)]
   | succ d ih =>
     intro i hi
     have hx : i < r.length := by omega
     have h2 := hs.2 _ (List.getElem_mem hx)
     refine Ev.step (fun k => ?_) (ih (i + 1) (by omega))
     simp only [tangramref11_Copy.l0]
     have e : r.getD ((i : Int).toNat) [] = r[i] := by rw [Int.toNat_natCast, List.getD_eq_getElem?_getD, List.getElem?_eq_getElem hx]; rfl
     rw [if_pos (by omega), Option.bind_some, if_pos (by omega)]
     change (if ([] : List Int).length + (r.getD ((i : Int).toNat) []).length < _ then (if _ then tangramref11_Copy.l0 k r (r.take i ++ [[] ++ r.getD ((i : Int).toNat) []]) _ else none) else none) = _
     rw [e, List.nil_append, if_pos (by simp only [List.length_nil]; omega), if_pos (by rw [List.length_take]; omega), w1 (by omega), List.take_succ_eq_append_getElem hx]
 exact loop r.length 0 (by omega)
theorem copied_ev (n : Int) (l : List Ed) (r : List (List Int)) (hl : l.length ≤ 8796093022208) (hs : Small r) : Ev (fun k => tangramlaw21_copied.f k n l r) (n, l, r) := by
 unfold tangramlaw21_copied.f
 exact Ev.bind (copy3_ev n l hl) (Ev.bind (copy11_ev r hs) (Ev.now _))
end Go.Proofs.Yteeihjpnhjnknaa.Rot
namespace Go.Proofs.Yteeihjpnhjnknaa.GAll
open Go.RowKit Go.Proofs.YteeihjpnhjnknaaW.PrintWords Go.Proofs.YteeihjpnhjnknaaW.PrintLast Go.Proofs.YteeihjpnhjnknaaW.PrintMore
attribute [local go_sem] max2_int min2_int max_two min_two max_three min_three max_four min_four   -- for this text's walks alone
set_option linter.unusedVariables false
set_option linter.unusedSimpArgs false
def canon_less_int.l0 : Nat → List Int → List Int → Int → Int → Option (Bool)
 | 0, _, _, _, _ => none
 | k + 1, x0, x1, x7, x8 => if x8 < x7 then (if x8 ≥ (x1.length : Int) then (some false) else (if 0 ≤ x8 then (if x8 < (x0.length : Int) then (if x8 < (x1.length : Int) then (if (rd x0 x8) = (rd x1 x8) then (canon_less_int.l0 k x0 x1 x7 (wrap64 (x8 + 1))) else (some (decide ((rd x0 x8) < (rd x1 x8))))) else (none)) else (none)) else (none))) else (some (decide ((x0.length : Int) < (x1.length : Int))))
def canon_less_int.f (k : Nat) (l0 : List Int) (l1 : List Int) : Option (Bool) := canon_less_int.l0 k l0 l1 (l0.length : Int) 0
theorem canon_less_int.mono_l : ∀ k, (∀ y0 y1 y2 y3, LeO (canon_less_int.l0 k y0 y1 y2 y3) (canon_less_int.l0 (k + 1) y0 y1 y2 y3))
 | 0 => fun _ _ _ _ r h => by simp [canon_less_int.l0] at h
 | k + 1 => by
   have ih0 := canon_less_int.mono_l k
   · intro y0 y1 y2 y3
     unfold canon_less_int.l0
     repeat' first
     | (with_reducible exact ih0 _ _ _ _)
     | (with_reducible exact LeO.refl _)
     | (with_reducible exact LeO.none _)
     | (with_reducible refine LeO.ite ?_ ?_)
     | (with_reducible refine LeO.bind ?_ (fun _ => ?_))
     | exact ih0 _ _ _ _
     | exact LeO.none _
     | refine LeO.ite ?_ ?_
     | refine LeO.bind ?_ (fun _ => ?_)
theorem canon_less_int.mono : ∀ a0 a1 k, LeO (canon_less_int.f k a0 a1) (canon_less_int.f (k + 1) a0 a1) := by
 intro a0 a1 k
 have ih0 := canon_less_int.mono_l k
 unfold canon_less_int.f
 repeat' first
     | (with_reducible exact ih0 _ _ _ _)
     | (with_reducible exact LeO.refl _)
     | (with_reducible exact LeO.none _)
     | (with_reducible refine LeO.ite ?_ ?_)
     | (with_reducible refine LeO.bind ?_ (fun _ => ?_))
     | exact ih0 _ _ _ _
     | exact LeO.none _
     | refine LeO.ite ?_ ?_
     | refine LeO.bind ?_ (fun _ => ?_)
set_option maxHeartbeats 8000000 in
set_option maxRecDepth 100000 in
theorem canon_less_int.calls (k : Nat) (A0 : Option Addr) (c0 : Nat) (l0 : List Int) (A1 : Option Addr) (c1 : Nat) (l1 : List Int) (r : Bool) (w : World) (hr0 : Kd.C (Kd.int .i64) w A0 l0.length l0) (hc0 : l0.length ≤ c0) (hr1 : Kd.C (Kd.int .i64) w A1 l1.length l1) (hc1 : l1.length ≤ c1) (h : canon_less_int.f k l0 l1 = some r) :
   Calls Try.prog 42 #[.slice A0 l0.length c0, .slice A1 l1.length c1] w fun e w' => e = .returned (.bool r) ∧ Drawn0 w w' := by
 have HR0 := Aside0.mk hr0
 have HC0 := Aside0.mk hc0
 clear hr0 hc0
 have HR1 := Aside0.mk hr1
 have HC1 := Aside0.mk hc1
 clear hr1 hc1
 have H : (canon_less_int.l0 k l0 l1 (l0.length : Int) 0) = some r := h
 clear h
 have H' := Aside0.mk H
 clear H
 go_enter Try.func42, Try.ntmps42
 go_wp2
 repeat (go_quiet (fail); try go_wp2)
 go_loopg [8] k (fun kq v8 w' => ∃ (x8_1 : Int), v8 = .int .i64 x8_1 ∧ Aside0 (canon_less_int.l0 kq l0 l1 (l0.length : Int) x8_1 = some r) ∧ Aside0 (kq ≤ k) ∧ Drawn0 w w')
 case atStart => exact ⟨(0), (by first | rfl | (simp; done) | (simp [*]; done)), H', ⟨Nat.le_refl _⟩, by repeat (first | exact Drawn0.refl _ | apply Drawn0.step)⟩
 case round =>
   clear H'
   try clear c1
   try clear p2
   obtain ⟨x8_1, rfl, HA, HK1, ⟨m1, rfl⟩⟩ := hrel
   cases gk with
   | zero => exact absurd HA.out (by simp [canon_less_int.l0])
   | succ k1 =>
     have H := HA.out
     clear HA
     simp only [canon_less_int.l0] at H
     by_cases c3 : x8_1 < (l0.length : Int)
     · rw [if_pos c3] at H
       have c3b0 : decide (x8_1 < (l0.length : Int)) = true := decide_eq_true c3
       clear c3
       by_cases c4 : x8_1 ≥ (l1.length : Int)
       · rw [if_pos c4] at H
         have c4b0 : decide ((l1.length : Int) ≤ x8_1) = true := decide_eq_true c4
         clear c4
         obtain rfl := Option.some.inj H
         go_wp2
         repeat (go_quiet (fail); try go_wp2)
         go_ret
         exact ⟨by first | rfl | (simp; done) | (simp [*]; done), by repeat (first | exact Drawn0.refl _ | apply Drawn0.step)⟩
       · rw [if_neg c4] at H
         have c4b0 : decide ((l1.length : Int) ≤ x8_1) = false := decide_eq_false c4
         clear c4
         by_cases c5 : 0 ≤ x8_1
         · rw [if_pos c5] at H
           have c5b0 : decide (0 ≤ x8_1) = true := decide_eq_true c5
           clear c5
           by_cases c6 : x8_1 < (l0.length : Int)
           · rw [if_pos c6] at H
             have c6b0 : decide (x8_1 < (l0.length : Int)) = true := decide_eq_true c6
             clear c6
             by_cases c7 : x8_1 < (l1.length : Int)
             · rw [if_pos c7] at H
               have c7b0 : decide (x8_1 < (l1.length : Int)) = true := decide_eq_true c7
               clear c7
               by_cases c8 : (rd l0 x8_1) = (rd l1 x8_1)
               · rw [if_pos c8] at H
                 have c8b0 : ((rd l0 x8_1) == (rd l1 x8_1)) = true := beq_iff_eq.mpr c8
                 have c8b1 : ((rd l0 x8_1) != (rd l1 x8_1)) = false := bne_eq_false_iff_eq.mpr c8
                 clear c8
                 have H' := Aside0.mk H
                 clear H
                 have p114 : 0 ≤ (x8_1 : Int) := of_decide_eq_true (by first | (with_reducible assumption) | assumption)
                 have q114 : x8_1 < (l0.length : Int) := of_decide_eq_true (by first | (with_reducible assumption) | assumption)
                 obtain ⟨ad114, e114, hx114_0⟩ := Kd.at_int HR0.out x8_1 p114 q114
                 cases e114
                 replace p114 := eq_true p114
                 replace q114 := eq_true q114
                 have p115 : 0 ≤ (x8_1 : Int) := of_decide_eq_true (by first | (with_reducible assumption) | assumption)
                 have q115 : x8_1 < (l1.length : Int) := of_decide_eq_true (by first | (with_reducible assumption) | assumption)
                 obtain ⟨ad115, e115, hx115_0⟩ := Kd.at_int HR1.out x8_1 p115 q115
                 cases e115
                 replace p115 := eq_true p115
                 replace q115 := eq_true q115
                 go_wp2
                 repeat (go_quiet (fail); try go_wp2)
                 go_roundg k1
                 case measure => have := HK1.out; omega
                 case rel => exact ⟨(wrap64 (x8_1 + 1)), (by first | rfl | (simp; done) | (simp [*]; done)), H', ⟨by have := HK1.out; omega⟩, by repeat (first | exact Drawn0.refl _ | apply Drawn0.step)⟩
               · rw [if_neg c8] at H
                 have c8b0 : ((rd l0 x8_1) == (rd l1 x8_1)) = false := beq_eq_false_iff_ne.mpr c8
                 have c8b1 : ((rd l0 x8_1) != (rd l1 x8_1)) = true := bne_iff_ne.mpr c8
                 obtain rfl := Option.some.inj H
                 have p114 : 0 ≤ (x8_1 : Int) := of_decide_eq_true (by first | (with_reducible assumption) | assumption)
                 have q114 : x8_1 < (l0.length : Int) := of_decide_eq_true (by first | (with_reducible assumption) | assumption)
                 obtain ⟨ad114, e114, hx114_0⟩ := Kd.at_int HR0.out x8_1 p114 q114
                 cases e114
                 replace p114 := eq_true p114
                 replace q114 := eq_true q114
                 have p115 : 0 ≤ (x8_1 : Int) := of_decide_eq_true (by first | (with_reducible assumption) | assumption)
                 have q115 : x8_1 < (l1.length : Int) := of_decide_eq_true (by first | (with_reducible assumption) | assumption)
                 obtain ⟨ad115, e115, hx115_0⟩ := Kd.at_int HR1.out x8_1 p115 q115
                 cases e115
                 replace p115 := eq_true p115
                 replace q115 := eq_true q115
                 have p116 : 0 ≤ (x8_1 : Int) := of_decide_eq_true (by first | (with_reducible assumption) | assumption)
                 have q116 : x8_1 < (l0.length : Int) := of_decide_eq_true (by first | (with_reducible assumption) | assumption)
                 obtain ⟨ad116, e116, hx116_0⟩ := Kd.at_int HR0.out x8_1 p116 q116
                 obtain rfl : ad114 = ad116 := (by injection e116)
                 replace p116 := eq_true p116
                 replace q116 := eq_true q116
                 have p117 : 0 ≤ (x8_1 : Int) := of_decide_eq_true (by first | (with_reducible assumption) | assumption)
                 have q117 : x8_1 < (l1.length : Int) := of_decide_eq_true (by first | (with_reducible assumption) | assumption)
                 obtain ⟨ad117, e117, hx117_0⟩ := Kd.at_int HR1.out x8_1 p117 q117
                 obtain rfl : ad115 = ad117 := (by injection e117)
                 replace p117 := eq_true p117
                 replace q117 := eq_true q117
                 go_wp2
                 repeat (go_quiet (fail); try go_wp2)
                 go_ret
                 exact ⟨by first | rfl | (simp; done) | (simp [*]; done), by repeat (first | exact Drawn0.refl _ | apply Drawn0.step)⟩
             · rw [if_neg c7] at H
               exact absurd H (by simp)
           · rw [if_neg c6] at H
             exact absurd H (by simp)
         · rw [if_neg c5] at H
           exact absurd H (by simp)
     · rw [if_neg c3] at H
       have c3b0 : decide (x8_1 < (l0.length : Int)) = false := decide_eq_false c3
       clear c3
       obtain rfl := Option.some.inj H
       go_wp2
       repeat (go_quiet (fail); try go_wp2)
       go_ret
       exact ⟨by first | rfl | (simp; done) | (simp [*]; done), by repeat (first | exact Drawn0.refl _ | apply Drawn0.step)⟩
end Go.Proofs.Yteeihjpnhjnknaa.GAll
namespace Go.Proofs.Yteeihjpnhjnknaa.Rot
open Go.RowKit Go.Proofs.YteeihjpnhjnknaaW.PrintWords Go.Proofs.YteeihjpnhjnknaaW.PrintLast Go.Proofs.YteeihjpnhjnknaaW.PrintMore Go.Proofs.Yteeihjpnhjnknaa.GAll Go.Proofs.Yteeihjpnhjnknaa.Mem Go.Proofs.Yteeihjpnhjnknaa.Seen
set_option linter.unusedVariables false
set_option linter.unusedSimpArgs false
def ltB : List Int → List Int → Bool
 | [], [] => false
 | [], _ :: _ => true
 | _ :: _, [] => false
 | a :: x, b :: y => if a = b then ltB x y else decide (a < b)
theorem ltB_self : ∀ x, ltB x x = false
 | [] => rfl
 | a :: x => by unfold ltB; rw [if_pos rfl]; exact ltB_self x
theorem ltB_eq : ∀ x y, ltB x y = false → ltB y x = false → x = y
 | [], [], _, _ => rfl
 | [], _ :: _, h, _ => by simp [ltB] at h
 | _ :: _, [], _, h => by simp [ltB] at h
 | a :: x, b :: y, h1, h2 => by
   unfold ltB at h1 h2
   by_cases e : a = b
   · rw [if_pos e] at h1
     rw [if_pos e.symm] at h2
     rw [e, ltB_eq x y h1 h2]
   · rw [if_neg e] at h1
     rw [if_neg (fun q => e q.symm)] at h2
     have := of_decide_eq_false h1
     have := of_decide_eq_false h2
     omega
theorem ltB_trans : ∀ x y z, ltB x y = true → ltB y z = true → ltB x z = true
 | [], _, [], h1, h2 => by cases ‹List Int› <;> simp [ltB] at h1 h2
 | [], _, _ :: _, _, _ => rfl
 | _ :: _, [], _, h, _ => by simp [ltB] at h
 | _ :: _, _ :: _, [], _, h => by simp [ltB] at h
 | a :: x, b :: y, c :: z, h1, h2 => by
   unfold ltB at h1 h2 ⊢
   by_cases e1 : a = b
   · subst e1
     rw [if_pos rfl] at h1
     by_cases e2 : a = c
     · rw [if_pos e2] at h2 ⊢; exact ltB_trans x y z h1 h2
     · rw [if_neg e2] at h2 ⊢; exact h2
   · rw [if_neg e1] at h1
     have := of_decide_eq_true h1
     by_cases e2 : b = c
     · subst e2
       rw [if_neg e1]; exact h1
     · rw [if_neg e2] at h2
       have := of_decide_eq_true h2
       rw [if_neg (by omega)]
       exact decide_eq_true (by omega)
theorem ltB_nil (b : List Int) : ltB [] b = decide (0 < b.length) := by
 cases b
 · rfl
 · simp [ltB]
theorem less_ev {a b : List Int} (ha : a.length ≤ 9000000000000000) : Ev (fun k => canon_less_int.f k a b) (ltB a b) := by
 have loop : ∀ (d i : Nat), i + d = a.length → i ≤ b.length → Ev (fun k => canon_less_int.l0 k a b (a.length : Int) (i : Int)) (ltB (a.drop i) (b.drop i)) := by
   intro d
   induction d with
   | zero =>
     intro i hi hb
     rw [List.drop_of_length_le (show a.length ≤ i by omega), ltB_nil, List.length_drop]
     refine Ev.step (f := fun _ => some (decide (0 < b.length - i))) (fun k => ?_) (Ev.now _)
     simp only [canon_less_int.l0]
     rw [if_neg (by omega)]
     congr 1
     rw [decide_eq_decide]
     omega
   | succ d ih =>
     intro i hi hb
     have hx : i < a.length := by omega
     by_cases hy : i < b.length
     · rw [List.drop_eq_getElem_cons hx, List.drop_eq_getElem_cons hy]
       unfold ltB
       by_cases e : a[i] = b[i]
       · rw [if_pos e]
         refine Ev.step (fun k => ?_) (ih (i + 1) (by omega) (by omega))
         simp only [canon_less_int.l0]
         rw [if_pos (by omega), if_neg (by omega), if_pos (by omega), if_pos (by omega), if_pos (by omega), gi_rd, gi_rd, gi_get hx, gi_get hy, if_pos e, w1 (by omega)]
       · rw [if_neg e]
         refine Ev.step (f := fun _ => some (decide (a[i] < b[i]))) (fun k => ?_) (Ev.now _)
         simp only [canon_less_int.l0]
         rw [if_pos (by omega), if_neg (by omega), if_pos (by omega), if_pos (by omega), if_pos (by omega), gi_rd, gi_rd, gi_get hx, gi_get hy, if_neg e]
     · rw [List.drop_eq_getElem_cons hx, List.drop_of_length_le (show b.length ≤ i by omega)]
       refine Ev.step (f := fun _ => some false) (fun k => ?_) (Ev.now _)
       simp only [canon_less_int.l0]
       rw [if_pos (by omega), if_pos (by omega)]
 exact loop a.length 0 (by omega) (by omega)
end Go.Proofs.Yteeihjpnhjnknaa.Rot
namespace Go.Proofs.Yteeihjpnhjnknaa.GAll
open Go.RowKit Go.Proofs.YteeihjpnhjnknaaW.PrintWords Go.Proofs.YteeihjpnhjnknaaW.PrintLast Go.Proofs.YteeihjpnhjnknaaW.PrintMore
attribute [local go_sem] max2_int min2_int max_two min_two max_three min_three max_four min_four   -- for this text's walks alone
set_option linter.unusedVariables false
set_option linter.unusedSimpArgs false
def canon_plane_best.l0 : Nat → List Int → List Int → Int → Int → Int → List Int → List Int → Option (List Int × List Int × Int)
 | 0, _, _, _, _, _, _, _ => none
 | k + 1, x5, x6, x7, x8, x119000, x119001, x119002 => if x8 < (x119001.length : Int) then ((canon_plane_code.f k x119000 x119001 x119002 x8).bind fun bt125 => ((canon_less_int.f k bt125.1 x5).bind fun t131 => (if t131 = true then (canon_plane_best.l0 k bt125.1 bt125.2 1 (wrap64 (x8 + 1)) x119000 x119001 x119002) else ((canon_less_int.f k x5 bt125.1).bind fun t132 => (if t132 = true then (canon_plane_best.l0 k x5 x6 x7 (wrap64 (x8 + 1)) x119000 x119001 x119002) else (canon_plane_best.l0 k x5 x6 (wrap64 (x7 + 1)) (wrap64 (x8 + 1)) x119000 x119001 x119002)))))) else (some (x5, x6, x7))
def canon_plane_best.f (k : Nat) (a0_0 : Int) (l0_1 : List Int) (l0_2 : List Int) : Option (List Int × List Int × Int) := (canon_plane_code.f k a0_0 l0_1 l0_2 0).bind fun bt119 => (canon_plane_best.l0 k bt119.1 bt119.2 1 1 a0_0 l0_1 l0_2)
theorem canon_plane_best.mono_l : ∀ k, (∀ y0 y1 y2 y3 y4 y5 y6, LeO (canon_plane_best.l0 k y0 y1 y2 y3 y4 y5 y6) (canon_plane_best.l0 (k + 1) y0 y1 y2 y3 y4 y5 y6))
 | 0 => fun _ _ _ _ _ _ _ r h => by simp [canon_plane_best.l0] at h
 | k + 1 => by
   have ih0 := canon_plane_best.mono_l k
   · intro y0 y1 y2 y3 y4 y5 y6
     unfold canon_plane_best.l0
     repeat' first
     | (with_reducible exact ih0 _ _ _ _ _ _ _)
     | (with_reducible exact canon_less_int.mono _ _ _)
     | (with_reducible exact canon_plane_code.mono _ _ _ _ _)
     | (with_reducible exact LeO.refl _)
     | (with_reducible exact LeO.none _)
     | (with_reducible refine LeO.ite ?_ ?_)
     | (with_reducible refine LeO.bind ?_ (fun _ => ?_))
     | exact ih0 _ _ _ _ _ _ _
     | exact canon_less_int.mono _ _ _
     | exact canon_plane_code.mono _ _ _ _ _
     | exact LeO.none _
     | refine LeO.ite ?_ ?_
     | refine LeO.bind ?_ (fun _ => ?_)
theorem canon_plane_best.mono : ∀ a0 a1 a2 k, LeO (canon_plane_best.f k a0 a1 a2) (canon_plane_best.f (k + 1) a0 a1 a2) := by
 intro a0 a1 a2 k
 have ih0 := canon_plane_best.mono_l k
 unfold canon_plane_best.f
 repeat' first
     | (with_reducible exact ih0 _ _ _ _ _ _ _)
     | (with_reducible exact canon_less_int.mono _ _ _)
     | (with_reducible exact canon_plane_code.mono _ _ _ _ _)
     | (with_reducible exact LeO.refl _)
     | (with_reducible exact LeO.none _)
     | (with_reducible refine LeO.ite ?_ ?_)
     | (with_reducible refine LeO.bind ?_ (fun _ => ?_))
     | exact ih0 _ _ _ _ _ _ _
     | exact canon_less_int.mono _ _ _
     | exact canon_plane_code.mono _ _ _ _ _
     | exact LeO.none _
     | refine LeO.ite ?_ ?_
     | refine LeO.bind ?_ (fun _ => ?_)
set_option maxHeartbeats 8000000 in
set_option maxRecDepth 100000 in
theorem canon_plane_best.calls (k : Nat) (a0_0 : Int) (A0_1 : Option Addr) (c0_1 : Nat) (l0_1 : List Int) (A0_2 : Option Addr) (c0_2 : Nat) (l0_2 : List Int) (r1 : List Int) (r2 : List Int) (r3 : Int) (w : World) (hr0_1 : Kd.C (Kd.int .i64) w A0_1 l0_1.length l0_1) (hc0_1 : l0_1.length ≤ c0_1) (hr0_2 : Kd.C (Kd.int .i64) w A0_2 l0_2.length l0_2) (hc0_2 : l0_2.length ≤ c0_2) (h : canon_plane_best.f k a0_0 l0_1 l0_2 = some (r1, r2, r3)) :
   Calls Try.prog 39 #[.agg #[.int .i64 a0_0, .slice A0_1 l0_1.length c0_1, .slice A0_2 l0_2.length c0_2]] w fun e w' => ∃ v0_ v1_ : Value, e = .returned (.tuple #[v0_, v1_, .int .i64 r3]) ∧ Kd.R (Kd.int .i64) 3 w' w.heap.size (fun k_ => some k_ ≠ (v1_ : Value).ownBlock) v0_ r1 ∧ Kd.R (Kd.int .i64) 3 w' w.heap.size (fun k_ => some k_ ≠ (v0_ : Value).ownBlock) v1_ r2 ∧ Below w.heap.size w w' := by
 have hu69 := Try.underlying69
 have HR0_1 := Aside0.mk hr0_1
 have HC0_1 := Aside0.mk hc0_1
 clear hr0_1 hc0_1
 have HR0_2 := Aside0.mk hr0_2
 have HC0_2 := Aside0.mk hc0_2
 clear hr0_2 hc0_2
 have HB := Aside0.mk (Below.refl w.heap.size w)
 have H : ((canon_plane_code.f k a0_0 l0_1 l0_2 0).bind fun bt119 => (canon_plane_best.l0 k bt119.1 bt119.2 1 1 a0_0 l0_1 l0_2)) = some (r1, r2, r3) := h
 clear h
 replace H := Option.bind_eq_some_iff.mp H
 obtain ⟨⟨t119, t122⟩, A20, H⟩ := H
 replace H : (canon_plane_best.l0 k t119 t122 1 1 a0_0 l0_1 l0_2) = some (r1, r2, r3) := H
 have A2 := Aside0.mk A20
 clear A20
 have H' := Aside0.mk H
 clear H
 go_enter Try.func39, Try.ntmps39
 go_wp2_with (first | ((with_reducible refine gate_dst (N := 1) rfl ?_); refine box_event ?hg (N := 1) ?hd (cs := #[.int .i64 a0_0, .slice A0_1 l0_1.length c0_1, .slice A0_2 l0_2.length c0_2]) (t := 69) ?hr ?_; (case hd => rfl); (case hg => rfl); (case hr => first | (go_simp; done) | (go_simp; rfl)); intro gb118 hg w3 hbox hb; have n0_ := Aside0.mk (below_step (by repeat (first | (with_reducible first | exact HB.out | apply below_alloc | apply pw_below_drewN | apply below_drew1) | exact HB.out)) hb); have n1_ := Aside0.mk (hbox); have n2_ := Aside0.mk ((by rw [hg]; exact (below_size (by repeat (first | (with_reducible first | exact HB.out | apply below_alloc | apply pw_below_drewN | apply below_drew1) | exact HB.out))) : w.heap.size ≤ gb118)); have n3_ := Aside0.mk ((by rw [hg]; exact (below_size (by repeat (first | (with_reducible first | exact HB.out | apply below_alloc | apply pw_below_drewN | apply below_drew1) | exact HB.out))) : w.heap.size ≤ gb118)); clear HB; have HB := n0_; have BK118 := n1_; have GW118 := n2_; have GE118 := n3_; clear n0_ n1_ n2_ n3_; clear hb hbox hg; have hcz4_0 : w3.cell? ⟨gb118, 0, none⟩ = some (.int .i64 a0_0) := (blk_cell BK118.out 0).trans rfl; have hcz4_1 : w3.cell? ⟨gb118, 1, none⟩ = some (.slice A0_1 l0_1.length c0_1) := (blk_cell BK118.out 1).trans rfl; have hcz4_2 : w3.cell? ⟨gb118, 2, none⟩ = some (.slice A0_2 l0_2.length c0_2) := (blk_cell BK118.out 2).trans rfl; have hfz4_0 := blk_frozen BK118.out 0; have hfz4_1 := blk_frozen BK118.out 1; have hfz4_2 := blk_frozen BK118.out 2) | ((with_reducible refine gate_callee (f := 37) rfl ?_); refine goesL_ (some 13) rfl rfl Try.func37 (by kernel_rfl) rfl #[.agg #[.int .i64 a0_0, .slice A0_1 l0_1.length c0_1, .slice A0_2 l0_2.length c0_2], .int .i64 0] rfl (by (try simp only [List.map_toArray, List.map_cons, List.map_nil]); first | done | rfl | (simp only [List.length_drop, List.length_take]; rfl)) ?_; (with_reducible refine (canon_plane_code.calls k a0_0 _ _ l0_1 _ _ l0_2 0 t119 t122 _ ?side1 ?side2 ?side3 ?side4 A2.out).mono ?_); (case side1 => repeat (first | exact (Kd.C_below HR0_1.out HB.out) | (with_reducible refine Kd.C_alloc ?_ _) | (with_reducible refine Kd.C_drewN ?_ _) | (with_reducible refine Kd.C_drew ?_))); (case side2 => exact HC0_1.out); (case side3 => repeat (first | exact (Kd.C_below HR0_2.out HB.out) | (with_reducible refine Kd.C_alloc ?_ _) | (with_reducible refine Kd.C_drewN ?_ _) | (with_reducible refine Kd.C_drew ?_))); (case side4 => exact HC0_2.out); rintro e w5 ⟨v120, v123, rfl, ho0, ho1, hb⟩; refine ⟨_, rfl, ?_⟩; have n0_ := Aside0.mk (Kd.R_lower ho0 (below_size (by repeat (first | (with_reducible first | exact HB.out | apply below_alloc | apply pw_below_drewN | apply below_drew1 | refine below_set ?_ GE118.out) | exact HB.out)))); have n1_ := Aside0.mk (Kd.R_lower ho1 (below_size (by repeat (first | (with_reducible first | exact HB.out | apply below_alloc | apply pw_below_drewN | apply below_drew1 | refine below_set ?_ GE118.out) | exact HB.out)))); have n2_ := Aside0.mk (blk_below (g := gb118) (o := .cells #[.int .i64 a0_0, .slice A0_1 l0_1.length c0_1, .slice A0_2 l0_2.length c0_2] 69 (0, 0)) (by (with_reducible repeat (first | refine blk_drewN ?_ _ | refine blk_drew ?_ | refine blk_alloc ?_ _)); exact BK118.out) hb); have n3_ := Aside0.mk (below_step (by repeat (first | (with_reducible first | exact HB.out | apply below_alloc | apply pw_below_drewN | apply below_drew1 | refine below_set ?_ GE118.out) | exact HB.out)) hb); clear BK118; clear HB; have HO121 := n0_; have HO124 := n1_; have BK118 := n2_; have HB := n3_; clear n0_ n1_ n2_ n3_; (try clear hb); (try clear hb2); (try clear hk); (try clear hi); (try clear ho0); (try clear ho1)))
 go_loopg [5, 6, 7, 8] k (fun kq v5 v6 v7 v8 w' => ∃ (x5_1 : List Int) (x6_1 : List Int) (x7_1 : Int) (x8_1 : Int), v7 = .int .i64 x7_1 ∧ v8 = .int .i64 x8_1 ∧ Aside0 (canon_plane_best.l0 kq x5_1 x6_1 x7_1 x8_1 a0_0 l0_1 l0_2 = some (r1, r2, r3)) ∧ Aside0 (kq ≤ k) ∧ Aside0 (Kd.R (Kd.int .i64) 3 w' w.heap.size (fun k_ => some k_ ≠ (v6 : Value).ownBlock) v5 x5_1) ∧ Aside0 (Kd.R (Kd.int .i64) 3 w' w.heap.size (fun k_ => some k_ ≠ (v5 : Value).ownBlock) v6 x6_1) ∧ Aside0 (w'.heap[gb118]? = some (.cells #[.int .i64 a0_0, (.slice A0_1 l0_1.length c0_1), (.slice A0_2 l0_2.length c0_2)] 69 (0, 0))) ∧ Aside0 (Below w.heap.size w w'))
 case atStart => exact ⟨(t119), (t122), (1), (1), (by first | rfl | (simp; done) | (simp [*]; done)), (by first | rfl | (simp; done) | (simp [*]; done)), H', ⟨Nat.le_refl _⟩, ⟨by (with_reducible repeat (first | apply Kd.R_alloc | apply Kd.R_drewN | apply Kd.R_drew)); exact HO121.out⟩, ⟨by (with_reducible repeat (first | apply Kd.R_alloc | apply Kd.R_drewN | apply Kd.R_drew)); exact HO124.out⟩, ⟨by (with_reducible repeat (first | refine blk_drewN ?_ _ | refine blk_drew ?_ | refine blk_alloc ?_ _)); exact BK118.out⟩, ⟨by repeat (first | (with_reducible first | exact HB.out | apply below_alloc | apply pw_below_drewN | apply below_drew1 | refine below_set ?_ GE118.out) | exact HB.out)⟩⟩
 case round =>
   clear H'
   try clear p2
   try clear c3
   try clear hcz4_0
   try clear hcz4_1
   try clear hcz4_2
   try clear hfz4_0
   try clear hfz4_1
   try clear hfz4_2
   obtain ⟨x5_1, x6_1, x7_1, x8_1, rfl, rfl, HA, HK1, HO_5, HO_6, BK118, HB⟩ := hrel
   cases gk with
   | zero => exact absurd HA.out (by simp [canon_plane_best.l0])
   | succ k1 =>
     have H := HA.out
     clear HA
     simp only [canon_plane_best.l0] at H
     by_cases c6 : x8_1 < (l0_1.length : Int)
     · rw [if_pos c6] at H
       have c6b0 : decide (x8_1 < (l0_1.length : Int)) = true := decide_eq_true c6
       clear c6
       replace H := Option.bind_eq_some_iff.mp H
       obtain ⟨⟨t125, t128⟩, A70, H⟩ := H
       replace H : ((canon_less_int.f k1 t125 x5_1).bind fun t131 => (if t131 = true then (canon_plane_best.l0 k1 t125 t128 1 (wrap64 (x8_1 + 1)) a0_0 l0_1 l0_2) else ((canon_less_int.f k1 x5_1 t125).bind fun t132 => (if t132 = true then (canon_plane_best.l0 k1 x5_1 x6_1 x7_1 (wrap64 (x8_1 + 1)) a0_0 l0_1 l0_2) else (canon_plane_best.l0 k1 x5_1 x6_1 (wrap64 (x7_1 + 1)) (wrap64 (x8_1 + 1)) a0_0 l0_1 l0_2))))) = some (r1, r2, r3) := H
       have A7 := Aside0.mk A70
       clear A70
       replace H := Option.bind_eq_some_iff.mp H
       obtain ⟨t131, A80, H⟩ := H
       replace H : (if t131 = true then (canon_plane_best.l0 k1 t125 t128 1 (wrap64 (x8_1 + 1)) a0_0 l0_1 l0_2) else ((canon_less_int.f k1 x5_1 t125).bind fun t132 => (if t132 = true then (canon_plane_best.l0 k1 x5_1 x6_1 x7_1 (wrap64 (x8_1 + 1)) a0_0 l0_1 l0_2) else (canon_plane_best.l0 k1 x5_1 x6_1 (wrap64 (x7_1 + 1)) (wrap64 (x8_1 + 1)) a0_0 l0_1 l0_2)))) = some (r1, r2, r3) := H
       have A8 := Aside0.mk A80
       clear A80
       by_cases c9 : t131 = true
       · subst c9
         have H1 : (canon_plane_best.l0 k1 t125 t128 1 (wrap64 (x8_1 + 1)) a0_0 l0_1 l0_2) = some (r1, r2, r3) := by rw [if_pos rfl] at H; exact H
         clear H
         have H := H1
         clear H1
         have H' := Aside0.mk H
         clear H
         have hcz10_0 : wr.cell? ⟨gb118, 0, none⟩ = some (.int .i64 a0_0) := (blk_cell BK118.out 0).trans rfl
         have hcz10_1 : wr.cell? ⟨gb118, 1, none⟩ = some (.slice A0_1 l0_1.length c0_1) := (blk_cell BK118.out 1).trans rfl
         have hcz10_2 : wr.cell? ⟨gb118, 2, none⟩ = some (.slice A0_2 l0_2.length c0_2) := (blk_cell BK118.out 2).trans rfl
         have hfz10_0 := blk_frozen BK118.out 0
         have hfz10_1 := blk_frozen BK118.out 1
         have hfz10_2 := blk_frozen BK118.out 2
         go_wp2_with (first | ((with_reducible refine gate_callee (f := 37) rfl ?_); refine goesL_ (some 26) rfl rfl Try.func37 (by kernel_rfl) rfl #[.agg #[.int .i64 a0_0, .slice A0_1 l0_1.length c0_1, .slice A0_2 l0_2.length c0_2], .int .i64 x8_1] rfl (by (try simp only [List.map_toArray, List.map_cons, List.map_nil]); first | done | rfl | (simp only [List.length_drop, List.length_take]; rfl)) ?_; (with_reducible refine (canon_plane_code.calls k1 a0_0 _ _ l0_1 _ _ l0_2 x8_1 t125 t128 _ ?side1 ?side2 ?side3 ?side4 A7.out).mono ?_); (case side1 => repeat (first | exact (Kd.C_below HR0_1.out HB.out) | (with_reducible refine Kd.C_alloc ?_ _) | (with_reducible refine Kd.C_drewN ?_ _) | (with_reducible refine Kd.C_drew ?_))); (case side2 => exact HC0_1.out); (case side3 => repeat (first | exact (Kd.C_below HR0_2.out HB.out) | (with_reducible refine Kd.C_alloc ?_ _) | (with_reducible refine Kd.C_drewN ?_ _) | (with_reducible refine Kd.C_drew ?_))); (case side4 => exact HC0_2.out); rintro e w11 ⟨v126, v129, rfl, ho0, ho1, hb⟩; refine ⟨_, rfl, ?_⟩; have n0_ := Aside0.mk (Kd.R_mono (Kd.R_told (Kd.R_told (Kd.R_old (by (with_reducible repeat (first | apply Kd.R_alloc | apply Kd.R_drewN | apply Kd.R_drew)); exact HO_5.out) hb) (Kd.R_base ho0)) (Kd.R_base ho1)) (fun _ h_ => h_.1)); have n1_ := Aside0.mk (Kd.R_mono (Kd.R_told (Kd.R_told (Kd.R_old (by (with_reducible repeat (first | apply Kd.R_alloc | apply Kd.R_drewN | apply Kd.R_drew)); exact HO_6.out) hb) (Kd.R_base ho0)) (Kd.R_base ho1)) (fun _ h_ => h_.1)); have n2_ := Aside0.mk (Kd.R_lower (Kd.R_new' (Kd.R_new' ho0 (Kd.R_lt (by (with_reducible repeat (first | apply Kd.R_alloc | apply Kd.R_drewN | apply Kd.R_drew)); exact HO_5.out))) (Kd.R_lt (by (with_reducible repeat (first | apply Kd.R_alloc | apply Kd.R_drewN | apply Kd.R_drew)); exact HO_6.out))) (below_size (by repeat (first | (with_reducible first | exact HB.out | apply below_alloc | apply pw_below_drewN | apply below_drew1 | refine below_set ?_ GE118.out) | exact HB.out)))); have n3_ := Aside0.mk (Kd.R_lower (Kd.R_new' (Kd.R_new' ho1 (Kd.R_lt (by (with_reducible repeat (first | apply Kd.R_alloc | apply Kd.R_drewN | apply Kd.R_drew)); exact HO_5.out))) (Kd.R_lt (by (with_reducible repeat (first | apply Kd.R_alloc | apply Kd.R_drewN | apply Kd.R_drew)); exact HO_6.out))) (below_size (by repeat (first | (with_reducible first | exact HB.out | apply below_alloc | apply pw_below_drewN | apply below_drew1 | refine below_set ?_ GE118.out) | exact HB.out)))); have n4_ := Aside0.mk (blk_below (g := gb118) (o := .cells #[.int .i64 a0_0, .slice A0_1 l0_1.length c0_1, .slice A0_2 l0_2.length c0_2] 69 (0, 0)) (by (with_reducible repeat (first | refine blk_drewN ?_ _ | refine blk_drew ?_ | refine blk_alloc ?_ _)); exact BK118.out) hb); have n5_ := Aside0.mk (below_step (by repeat (first | (with_reducible first | exact HB.out | apply below_alloc | apply pw_below_drewN | apply below_drew1 | refine below_set ?_ GE118.out) | exact HB.out)) hb); clear HO_5; clear HO_6; clear BK118; clear HB; have HO_5 := n0_; have HO_6 := n1_; have HO127 := n2_; have HO130 := n3_; have BK118 := n4_; have HB := n5_; clear n0_ n1_ n2_ n3_ n4_ n5_; (try clear hb); (try clear hb2); (try clear hk); (try clear hi); (try clear ho0); (try clear ho1); obtain ⟨Ao12, co12, eo12⟩ := Kd.R_slice HO127.out; subst eo12; obtain ⟨Ao13, co13, eo13⟩ := Kd.R_slice HO_5.out; subst eo13) | ((with_reducible refine gate_callee (f := 42) rfl ?_); refine goesL_ (some 32) rfl rfl Try.func42 (by kernel_rfl) rfl #[.slice Ao12 t125.length co12, .slice Ao13 x5_1.length co13] rfl (by (try simp only [List.map_toArray, List.map_cons, List.map_nil]); first | done | rfl | (simp only [List.length_drop, List.length_take]; rfl)) ?_; (with_reducible refine (canon_less_int.calls k1 _ _ t125 _ _ x5_1 true _ ?side1 ?side2 ?side3 ?side4 A8.out).mono ?_); (case side1 => repeat (first | exact (Kd.R_reads' HO127.out).2.2 | (with_reducible refine Kd.C_alloc ?_ _) | (with_reducible refine Kd.C_drewN ?_ _) | (with_reducible refine Kd.C_drew ?_))); (case side2 => exact (Kd.R_reads' HO127.out).2.1); (case side3 => repeat (first | exact (Kd.R_reads' HO_5.out).2.2 | (with_reducible refine Kd.C_alloc ?_ _) | (with_reducible refine Kd.C_drewN ?_ _) | (with_reducible refine Kd.C_drew ?_))); (case side4 => exact (Kd.R_reads' HO_5.out).2.1); rintro e w' ⟨rfl, ⟨nd, rfl⟩⟩; refine ⟨_, rfl, ?_⟩))
         go_roundg k1
         case measure => have := HK1.out; omega
         case rel => exact ⟨(t125), (t128), (1), (wrap64 (x8_1 + 1)), (by first | rfl | (simp; done) | (simp [*]; done)), (by first | rfl | (simp; done) | (simp [*]; done)), H', ⟨by have := HK1.out; omega⟩, ⟨by (with_reducible repeat (first | apply Kd.R_alloc | apply Kd.R_drewN | apply Kd.R_drew)); exact Kd.R_mono HO127.out (fun _ hk => hk.1.1)⟩, ⟨by (with_reducible repeat (first | apply Kd.R_alloc | apply Kd.R_drewN | apply Kd.R_drew)); exact Kd.R_mono HO130.out (fun _ hk => hk.1.1)⟩, ⟨by (with_reducible repeat (first | refine blk_drewN ?_ _ | refine blk_drew ?_ | refine blk_alloc ?_ _)); exact BK118.out⟩, ⟨by repeat (first | (with_reducible first | exact HB.out | apply below_alloc | apply pw_below_drewN | apply below_drew1 | refine below_set ?_ GE118.out) | exact HB.out)⟩⟩
       · replace c9 := Bool.eq_false_iff.mpr c9
         subst c9
         have H1 : ((canon_less_int.f k1 x5_1 t125).bind fun t132 => (if t132 = true then (canon_plane_best.l0 k1 x5_1 x6_1 x7_1 (wrap64 (x8_1 + 1)) a0_0 l0_1 l0_2) else (canon_plane_best.l0 k1 x5_1 x6_1 (wrap64 (x7_1 + 1)) (wrap64 (x8_1 + 1)) a0_0 l0_1 l0_2))) = some (r1, r2, r3) := by rw [if_neg (show ¬ (false = true) by decide)] at H; exact H
         clear H
         have H := H1
         clear H1
         replace H := Option.bind_eq_some_iff.mp H
         obtain ⟨t132, A140, H⟩ := H
         replace H : (if t132 = true then (canon_plane_best.l0 k1 x5_1 x6_1 x7_1 (wrap64 (x8_1 + 1)) a0_0 l0_1 l0_2) else (canon_plane_best.l0 k1 x5_1 x6_1 (wrap64 (x7_1 + 1)) (wrap64 (x8_1 + 1)) a0_0 l0_1 l0_2)) = some (r1, r2, r3) := H
         have A14 := Aside0.mk A140
         clear A140
         by_cases c15 : t132 = true
         · subst c15
           have H1 : (canon_plane_best.l0 k1 x5_1 x6_1 x7_1 (wrap64 (x8_1 + 1)) a0_0 l0_1 l0_2) = some (r1, r2, r3) := by rw [if_pos rfl] at H; exact H
           clear H
           have H := H1
           clear H1
           have H' := Aside0.mk H
           clear H
           have hcz16_0 : wr.cell? ⟨gb118, 0, none⟩ = some (.int .i64 a0_0) := (blk_cell BK118.out 0).trans rfl
           have hcz16_1 : wr.cell? ⟨gb118, 1, none⟩ = some (.slice A0_1 l0_1.length c0_1) := (blk_cell BK118.out 1).trans rfl
           have hcz16_2 : wr.cell? ⟨gb118, 2, none⟩ = some (.slice A0_2 l0_2.length c0_2) := (blk_cell BK118.out 2).trans rfl
           have hfz16_0 := blk_frozen BK118.out 0
           have hfz16_1 := blk_frozen BK118.out 1
           have hfz16_2 := blk_frozen BK118.out 2
           go_wp2_with (first | ((with_reducible refine gate_callee (f := 37) rfl ?_); refine goesL_ (some 26) rfl rfl Try.func37 (by kernel_rfl) rfl #[.agg #[.int .i64 a0_0, .slice A0_1 l0_1.length c0_1, .slice A0_2 l0_2.length c0_2], .int .i64 x8_1] rfl (by (try simp only [List.map_toArray, List.map_cons, List.map_nil]); first | done | rfl | (simp only [List.length_drop, List.length_take]; rfl)) ?_; (with_reducible refine (canon_plane_code.calls k1 a0_0 _ _ l0_1 _ _ l0_2 x8_1 t125 t128 _ ?side1 ?side2 ?side3 ?side4 A7.out).mono ?_); (case side1 => repeat (first | exact (Kd.C_below HR0_1.out HB.out) | (with_reducible refine Kd.C_alloc ?_ _) | (with_reducible refine Kd.C_drewN ?_ _) | (with_reducible refine Kd.C_drew ?_))); (case side2 => exact HC0_1.out); (case side3 => repeat (first | exact (Kd.C_below HR0_2.out HB.out) | (with_reducible refine Kd.C_alloc ?_ _) | (with_reducible refine Kd.C_drewN ?_ _) | (with_reducible refine Kd.C_drew ?_))); (case side4 => exact HC0_2.out); rintro e w17 ⟨v126, v129, rfl, ho0, ho1, hb⟩; refine ⟨_, rfl, ?_⟩; have n0_ := Aside0.mk (Kd.R_mono (Kd.R_told (Kd.R_told (Kd.R_old (by (with_reducible repeat (first | apply Kd.R_alloc | apply Kd.R_drewN | apply Kd.R_drew)); exact HO_5.out) hb) (Kd.R_base ho0)) (Kd.R_base ho1)) (fun _ h_ => h_.1)); have n1_ := Aside0.mk (Kd.R_mono (Kd.R_told (Kd.R_told (Kd.R_old (by (with_reducible repeat (first | apply Kd.R_alloc | apply Kd.R_drewN | apply Kd.R_drew)); exact HO_6.out) hb) (Kd.R_base ho0)) (Kd.R_base ho1)) (fun _ h_ => h_.1)); have n2_ := Aside0.mk (Kd.R_lower (Kd.R_new' (Kd.R_new' ho0 (Kd.R_lt (by (with_reducible repeat (first | apply Kd.R_alloc | apply Kd.R_drewN | apply Kd.R_drew)); exact HO_5.out))) (Kd.R_lt (by (with_reducible repeat (first | apply Kd.R_alloc | apply Kd.R_drewN | apply Kd.R_drew)); exact HO_6.out))) (below_size (by repeat (first | (with_reducible first | exact HB.out | apply below_alloc | apply pw_below_drewN | apply below_drew1 | refine below_set ?_ GE118.out) | exact HB.out)))); have n3_ := Aside0.mk (Kd.R_lower (Kd.R_new' (Kd.R_new' ho1 (Kd.R_lt (by (with_reducible repeat (first | apply Kd.R_alloc | apply Kd.R_drewN | apply Kd.R_drew)); exact HO_5.out))) (Kd.R_lt (by (with_reducible repeat (first | apply Kd.R_alloc | apply Kd.R_drewN | apply Kd.R_drew)); exact HO_6.out))) (below_size (by repeat (first | (with_reducible first | exact HB.out | apply below_alloc | apply pw_below_drewN | apply below_drew1 | refine below_set ?_ GE118.out) | exact HB.out)))); have n4_ := Aside0.mk (blk_below (g := gb118) (o := .cells #[.int .i64 a0_0, .slice A0_1 l0_1.length c0_1, .slice A0_2 l0_2.length c0_2] 69 (0, 0)) (by (with_reducible repeat (first | refine blk_drewN ?_ _ | refine blk_drew ?_ | refine blk_alloc ?_ _)); exact BK118.out) hb); have n5_ := Aside0.mk (below_step (by repeat (first | (with_reducible first | exact HB.out | apply below_alloc | apply pw_below_drewN | apply below_drew1 | refine below_set ?_ GE118.out) | exact HB.out)) hb); clear HO_5; clear HO_6; clear BK118; clear HB; have HO_5 := n0_; have HO_6 := n1_; have HO127 := n2_; have HO130 := n3_; have BK118 := n4_; have HB := n5_; clear n0_ n1_ n2_ n3_ n4_ n5_; (try clear hb); (try clear hb2); (try clear hk); (try clear hi); (try clear ho0); (try clear ho1); obtain ⟨Ao18, co18, eo18⟩ := Kd.R_slice HO127.out; subst eo18; obtain ⟨Ao19, co19, eo19⟩ := Kd.R_slice HO_5.out; subst eo19) | ((with_reducible refine gate_callee (f := 42) rfl ?_); refine goesL_ (some 32) rfl rfl Try.func42 (by kernel_rfl) rfl #[.slice Ao18 t125.length co18, .slice Ao19 x5_1.length co19] rfl (by (try simp only [List.map_toArray, List.map_cons, List.map_nil]); first | done | rfl | (simp only [List.length_drop, List.length_take]; rfl)) ?_; (with_reducible refine (canon_less_int.calls k1 _ _ t125 _ _ x5_1 false _ ?side1 ?side2 ?side3 ?side4 A8.out).mono ?_); (case side1 => repeat (first | exact (Kd.R_reads' HO127.out).2.2 | (with_reducible refine Kd.C_alloc ?_ _) | (with_reducible refine Kd.C_drewN ?_ _) | (with_reducible refine Kd.C_drew ?_))); (case side2 => exact (Kd.R_reads' HO127.out).2.1); (case side3 => repeat (first | exact (Kd.R_reads' HO_5.out).2.2 | (with_reducible refine Kd.C_alloc ?_ _) | (with_reducible refine Kd.C_drewN ?_ _) | (with_reducible refine Kd.C_drew ?_))); (case side4 => exact (Kd.R_reads' HO_5.out).2.1); rintro e w' ⟨rfl, ⟨nd, rfl⟩⟩; refine ⟨_, rfl, ?_⟩) | ((with_reducible refine gate_callee (f := 42) rfl ?_); refine goesL_ (some 38) rfl rfl Try.func42 (by kernel_rfl) rfl #[.slice Ao19 x5_1.length co19, .slice Ao18 t125.length co18] rfl (by (try simp only [List.map_toArray, List.map_cons, List.map_nil]); first | done | rfl | (simp only [List.length_drop, List.length_take]; rfl)) ?_; (with_reducible refine (canon_less_int.calls k1 _ _ x5_1 _ _ t125 true _ ?side1 ?side2 ?side3 ?side4 A14.out).mono ?_); (case side1 => repeat (first | exact (Kd.R_reads' HO_5.out).2.2 | (with_reducible refine Kd.C_alloc ?_ _) | (with_reducible refine Kd.C_drewN ?_ _) | (with_reducible refine Kd.C_drew ?_))); (case side2 => exact (Kd.R_reads' HO_5.out).2.1); (case side3 => repeat (first | exact (Kd.R_reads' HO127.out).2.2 | (with_reducible refine Kd.C_alloc ?_ _) | (with_reducible refine Kd.C_drewN ?_ _) | (with_reducible refine Kd.C_drew ?_))); (case side4 => exact (Kd.R_reads' HO127.out).2.1); rintro e w' ⟨rfl, ⟨nd, rfl⟩⟩; refine ⟨_, rfl, ?_⟩))
           go_roundg k1
           case measure => have := HK1.out; omega
           case rel => exact ⟨(x5_1), (x6_1), (x7_1), (wrap64 (x8_1 + 1)), (by first | rfl | (simp; done) | (simp [*]; done)), (by first | rfl | (simp; done) | (simp [*]; done)), H', ⟨by have := HK1.out; omega⟩, ⟨by (with_reducible repeat (first | apply Kd.R_alloc | apply Kd.R_drewN | apply Kd.R_drew)); exact Kd.R_mono HO_5.out (fun _ hk => hk.1.1)⟩, ⟨by (with_reducible repeat (first | apply Kd.R_alloc | apply Kd.R_drewN | apply Kd.R_drew)); exact Kd.R_mono HO_6.out (fun _ hk => hk.1.1)⟩, ⟨by (with_reducible repeat (first | refine blk_drewN ?_ _ | refine blk_drew ?_ | refine blk_alloc ?_ _)); exact BK118.out⟩, ⟨by repeat (first | (with_reducible first | exact HB.out | apply below_alloc | apply pw_below_drewN | apply below_drew1 | refine below_set ?_ GE118.out) | exact HB.out)⟩⟩
         · replace c15 := Bool.eq_false_iff.mpr c15
           subst c15
           have H1 : (canon_plane_best.l0 k1 x5_1 x6_1 (wrap64 (x7_1 + 1)) (wrap64 (x8_1 + 1)) a0_0 l0_1 l0_2) = some (r1, r2, r3) := by rw [if_neg (show ¬ (false = true) by decide)] at H; exact H
           clear H
           have H := H1
           clear H1
           have H' := Aside0.mk H
           clear H
           have hcz20_0 : wr.cell? ⟨gb118, 0, none⟩ = some (.int .i64 a0_0) := (blk_cell BK118.out 0).trans rfl
           have hcz20_1 : wr.cell? ⟨gb118, 1, none⟩ = some (.slice A0_1 l0_1.length c0_1) := (blk_cell BK118.out 1).trans rfl
           have hcz20_2 : wr.cell? ⟨gb118, 2, none⟩ = some (.slice A0_2 l0_2.length c0_2) := (blk_cell BK118.out 2).trans rfl
           have hfz20_0 := blk_frozen BK118.out 0
           have hfz20_1 := blk_frozen BK118.out 1
           have hfz20_2 := blk_frozen BK118.out 2
           go_wp2_with (first | ((with_reducible refine gate_callee (f := 37) rfl ?_); refine goesL_ (some 26) rfl rfl Try.func37 (by kernel_rfl) rfl #[.agg #[.int .i64 a0_0, .slice A0_1 l0_1.length c0_1, .slice A0_2 l0_2.length c0_2], .int .i64 x8_1] rfl (by (try simp only [List.map_toArray, List.map_cons, List.map_nil]); first | done | rfl | (simp only [List.length_drop, List.length_take]; rfl)) ?_; (with_reducible refine (canon_plane_code.calls k1 a0_0 _ _ l0_1 _ _ l0_2 x8_1 t125 t128 _ ?side1 ?side2 ?side3 ?side4 A7.out).mono ?_); (case side1 => repeat (first | exact (Kd.C_below HR0_1.out HB.out) | (with_reducible refine Kd.C_alloc ?_ _) | (with_reducible refine Kd.C_drewN ?_ _) | (with_reducible refine Kd.C_drew ?_))); (case side2 => exact HC0_1.out); (case side3 => repeat (first | exact (Kd.C_below HR0_2.out HB.out) | (with_reducible refine Kd.C_alloc ?_ _) | (with_reducible refine Kd.C_drewN ?_ _) | (with_reducible refine Kd.C_drew ?_))); (case side4 => exact HC0_2.out); rintro e w21 ⟨v126, v129, rfl, ho0, ho1, hb⟩; refine ⟨_, rfl, ?_⟩; have n0_ := Aside0.mk (Kd.R_mono (Kd.R_told (Kd.R_told (Kd.R_old (by (with_reducible repeat (first | apply Kd.R_alloc | apply Kd.R_drewN | apply Kd.R_drew)); exact HO_5.out) hb) (Kd.R_base ho0)) (Kd.R_base ho1)) (fun _ h_ => h_.1)); have n1_ := Aside0.mk (Kd.R_mono (Kd.R_told (Kd.R_told (Kd.R_old (by (with_reducible repeat (first | apply Kd.R_alloc | apply Kd.R_drewN | apply Kd.R_drew)); exact HO_6.out) hb) (Kd.R_base ho0)) (Kd.R_base ho1)) (fun _ h_ => h_.1)); have n2_ := Aside0.mk (Kd.R_lower (Kd.R_new' (Kd.R_new' ho0 (Kd.R_lt (by (with_reducible repeat (first | apply Kd.R_alloc | apply Kd.R_drewN | apply Kd.R_drew)); exact HO_5.out))) (Kd.R_lt (by (with_reducible repeat (first | apply Kd.R_alloc | apply Kd.R_drewN | apply Kd.R_drew)); exact HO_6.out))) (below_size (by repeat (first | (with_reducible first | exact HB.out | apply below_alloc | apply pw_below_drewN | apply below_drew1 | refine below_set ?_ GE118.out) | exact HB.out)))); have n3_ := Aside0.mk (Kd.R_lower (Kd.R_new' (Kd.R_new' ho1 (Kd.R_lt (by (with_reducible repeat (first | apply Kd.R_alloc | apply Kd.R_drewN | apply Kd.R_drew)); exact HO_5.out))) (Kd.R_lt (by (with_reducible repeat (first | apply Kd.R_alloc | apply Kd.R_drewN | apply Kd.R_drew)); exact HO_6.out))) (below_size (by repeat (first | (with_reducible first | exact HB.out | apply below_alloc | apply pw_below_drewN | apply below_drew1 | refine below_set ?_ GE118.out) | exact HB.out)))); have n4_ := Aside0.mk (blk_below (g := gb118) (o := .cells #[.int .i64 a0_0, .slice A0_1 l0_1.length c0_1, .slice A0_2 l0_2.length c0_2] 69 (0, 0)) (by (with_reducible repeat (first | refine blk_drewN ?_ _ | refine blk_drew ?_ | refine blk_alloc ?_ _)); exact BK118.out) hb); have n5_ := Aside0.mk (below_step (by repeat (first | (with_reducible first | exact HB.out | apply below_alloc | apply pw_below_drewN | apply below_drew1 | refine below_set ?_ GE118.out) | exact HB.out)) hb); clear HO_5; clear HO_6; clear BK118; clear HB; have HO_5 := n0_; have HO_6 := n1_; have HO127 := n2_; have HO130 := n3_; have BK118 := n4_; have HB := n5_; clear n0_ n1_ n2_ n3_ n4_ n5_; (try clear hb); (try clear hb2); (try clear hk); (try clear hi); (try clear ho0); (try clear ho1); obtain ⟨Ao22, co22, eo22⟩ := Kd.R_slice HO127.out; subst eo22; obtain ⟨Ao23, co23, eo23⟩ := Kd.R_slice HO_5.out; subst eo23) | ((with_reducible refine gate_callee (f := 42) rfl ?_); refine goesL_ (some 32) rfl rfl Try.func42 (by kernel_rfl) rfl #[.slice Ao22 t125.length co22, .slice Ao23 x5_1.length co23] rfl (by (try simp only [List.map_toArray, List.map_cons, List.map_nil]); first | done | rfl | (simp only [List.length_drop, List.length_take]; rfl)) ?_; (with_reducible refine (canon_less_int.calls k1 _ _ t125 _ _ x5_1 false _ ?side1 ?side2 ?side3 ?side4 A8.out).mono ?_); (case side1 => repeat (first | exact (Kd.R_reads' HO127.out).2.2 | (with_reducible refine Kd.C_alloc ?_ _) | (with_reducible refine Kd.C_drewN ?_ _) | (with_reducible refine Kd.C_drew ?_))); (case side2 => exact (Kd.R_reads' HO127.out).2.1); (case side3 => repeat (first | exact (Kd.R_reads' HO_5.out).2.2 | (with_reducible refine Kd.C_alloc ?_ _) | (with_reducible refine Kd.C_drewN ?_ _) | (with_reducible refine Kd.C_drew ?_))); (case side4 => exact (Kd.R_reads' HO_5.out).2.1); rintro e w' ⟨rfl, ⟨nd, rfl⟩⟩; refine ⟨_, rfl, ?_⟩) | ((with_reducible refine gate_callee (f := 42) rfl ?_); refine goesL_ (some 38) rfl rfl Try.func42 (by kernel_rfl) rfl #[.slice Ao23 x5_1.length co23, .slice Ao22 t125.length co22] rfl (by (try simp only [List.map_toArray, List.map_cons, List.map_nil]); first | done | rfl | (simp only [List.length_drop, List.length_take]; rfl)) ?_; (with_reducible refine (canon_less_int.calls k1 _ _ x5_1 _ _ t125 false _ ?side1 ?side2 ?side3 ?side4 A14.out).mono ?_); (case side1 => repeat (first | exact (Kd.R_reads' HO_5.out).2.2 | (with_reducible refine Kd.C_alloc ?_ _) | (with_reducible refine Kd.C_drewN ?_ _) | (with_reducible refine Kd.C_drew ?_))); (case side2 => exact (Kd.R_reads' HO_5.out).2.1); (case side3 => repeat (first | exact (Kd.R_reads' HO127.out).2.2 | (with_reducible refine Kd.C_alloc ?_ _) | (with_reducible refine Kd.C_drewN ?_ _) | (with_reducible refine Kd.C_drew ?_))); (case side4 => exact (Kd.R_reads' HO127.out).2.1); rintro e w' ⟨rfl, ⟨nd, rfl⟩⟩; refine ⟨_, rfl, ?_⟩))
           go_roundg k1
           case measure => have := HK1.out; omega
           case rel => exact ⟨(x5_1), (x6_1), (wrap64 (x7_1 + 1)), (wrap64 (x8_1 + 1)), (by first | rfl | (simp; done) | (simp [*]; done)), (by first | rfl | (simp; done) | (simp [*]; done)), H', ⟨by have := HK1.out; omega⟩, ⟨by (with_reducible repeat (first | apply Kd.R_alloc | apply Kd.R_drewN | apply Kd.R_drew)); exact Kd.R_mono HO_5.out (fun _ hk => hk.1.1)⟩, ⟨by (with_reducible repeat (first | apply Kd.R_alloc | apply Kd.R_drewN | apply Kd.R_drew)); exact Kd.R_mono HO_6.out (fun _ hk => hk.1.1)⟩, ⟨by (with_reducible repeat (first | refine blk_drewN ?_ _ | refine blk_drew ?_ | refine blk_alloc ?_ _)); exact BK118.out⟩, ⟨by repeat (first | (with_reducible first | exact HB.out | apply below_alloc | apply pw_below_drewN | apply below_drew1 | refine below_set ?_ GE118.out) | exact HB.out)⟩⟩
     · rw [if_neg c6] at H
       have c6b0 : decide (x8_1 < (l0_1.length : Int)) = false := decide_eq_false c6
       clear c6
       simp only [Option.some.injEq, Prod.mk.injEq] at H
       obtain ⟨rfl, rfl, rfl⟩ := H
       have hcz24_0 : wr.cell? ⟨gb118, 0, none⟩ = some (.int .i64 a0_0) := (blk_cell BK118.out 0).trans rfl
       have hcz24_1 : wr.cell? ⟨gb118, 1, none⟩ = some (.slice A0_1 l0_1.length c0_1) := (blk_cell BK118.out 1).trans rfl
       have hcz24_2 : wr.cell? ⟨gb118, 2, none⟩ = some (.slice A0_2 l0_2.length c0_2) := (blk_cell BK118.out 2).trans rfl
       have hfz24_0 := blk_frozen BK118.out 0
       have hfz24_1 := blk_frozen BK118.out 1
       have hfz24_2 := blk_frozen BK118.out 2
       go_wp2
       go_ret3
       exact ⟨_, _, by first | rfl | (simp [errW_none, errW_some] <;> rfl) | (simp [*, errW_none, errW_some] <;> rfl), by (with_reducible repeat (first | apply Kd.R_alloc | apply Kd.R_drewN | apply Kd.R_drew)); exact HO_5.out, by (with_reducible repeat (first | apply Kd.R_alloc | apply Kd.R_drewN | apply Kd.R_drew)); exact HO_6.out, by repeat (first | (with_reducible first | exact HB.out | apply below_alloc | apply pw_below_drewN | apply below_drew1 | refine below_set ?_ GE118.out) | exact HB.out)⟩
end Go.Proofs.Yteeihjpnhjnknaa.GAll
namespace Go.Proofs.Yteeihjpnhjnknaa.Rot
open Go.RowKit Go.Proofs.YteeihjpnhjnknaaW.PrintWords Go.Proofs.YteeihjpnhjnknaaW.PrintLast Go.Proofs.YteeihjpnhjnknaaW.PrintMore Go.Proofs.Yteeihjpnhjnknaa.GAll Go.Proofs.Yteeihjpnhjnknaa.Mem Go.Proofs.Yteeihjpnhjnknaa.Seen
set_option linter.unusedVariables false
set_option linter.unusedSimpArgs false
def bst (C : Nat → List Int) : Nat → Nat × Nat
 | 0 => (0, 1)
 | j + 1 => if ltB (C (j + 1)) (C (bst C j).1) = true then (j + 1, 1) else if ltB (C (bst C j).1) (C (j + 1)) = true then bst C j else ((bst C j).1, (bst C j).2 + 1)
theorem bst_le (C : Nat → List Int) : ∀ j, (bst C j).1 ≤ j ∧ (bst C j).2 ≤ j + 1
 | 0 => ⟨Nat.le_refl _, Nat.le_refl _⟩
 | j + 1 => by
   have := bst_le C j
   unfold bst
   split
   · exact ⟨Nat.le_refl _, by simp⟩
   · split
     · omega
     · simp only; omega
section
variable {n : Nat} {l : List Ed} {r : List (List Int)}
abbrev codes (n : Nat) (l : List Ed) (r : List (List Int)) (h : Nat) : List Int := (seenOf n l r h).cd
abbrev bestOf (n : Nat) (l : List Ed) (r : List (List Int)) : Nat × Nat := bst (codes n l r) (2 * l.length - 1)
theorem best_loop (h : IsMap n l r) (d : Nat) : ∀ j, j + 1 + d = 2 * l.length → ∀ b c, bst (codes n l r) j = (b, c) →
   Ev (fun k => canon_plane_best.l0 k (codes n l r b) (seenOf n l r b).ord (c : Int) ((j + 1 : Nat) : Int) (n : Int) (nxOf l r) (toOf l)) (codes n l r (bestOf n l r).1, (seenOf n l r (bestOf n l r).1).ord, ((bestOf n l r).2 : Int)) := by
 have hlen := h.len
 have hll := h.good.2.2.1
 induction d with
 | zero =>
   intro j hj b c hb
   have e : bestOf n l r = (b, c) := by rw [← hb]; unfold bestOf; congr 1; omega
   rw [e]
   refine Ev.step (f := fun _ => some _) (fun k => ?_) (Ev.now _)
   simp only [canon_plane_best.l0]
   rw [if_neg (by rw [hlen]; omega)]
 | succ d ih =>
   intro j hj b c hb
   have hle := bst_le (codes n l r) j
   rw [hb] at hle
   simp only at hle
   have hs : bst (codes n l r) (j + 1) = if ltB (codes n l r (j + 1)) (codes n l r b) = true then (j + 1, 1) else if ltB (codes n l r b) (codes n l r (j + 1)) = true then (b, c) else (b, c + 1) := by
     rw [bst, hb]
   have hI := ih (j + 1) (by omega)
   have c1 := code_ev h (root := j + 1) (by omega)
   have l1 := less_ev (a := codes n l r (j + 1)) (b := codes n l r b) (seen_cd h _)
   have l2 := less_ev (a := codes n l r b) (b := codes n l r (j + 1)) (seen_cd h _)
   refine Ev.step (f := fun k => (canon_plane_code.f k (n : Int) (nxOf l r) (toOf l) ((j + 1 : Nat) : Int)).bind fun bt => (canon_less_int.f k bt.1 (codes n l r b)).bind fun t => if t = true then canon_plane_best.l0 k bt.1 bt.2 ((1 : Nat) : Int) ((j + 1 + 1 : Nat) : Int) (n : Int) (nxOf l r) (toOf l) else (canon_less_int.f k (codes n l r b) bt.1).bind fun t2 => if t2 = true then canon_plane_best.l0 k (codes n l r b) (seenOf n l r b).ord (c : Int) ((j + 1 + 1 : Nat) : Int) (n : Int) (nxOf l r) (toOf l) else canon_plane_best.l0 k (codes n l r b) (seenOf n l r b).ord ((c + 1 : Nat) : Int) ((j + 1 + 1 : Nat) : Int) (n : Int) (nxOf l r) (toOf l)) (fun k => ?_) ?_
   · simp only [canon_plane_best.l0]
     rw [if_pos (by rw [hlen]; omega), w1 (i := j + 1) (by omega), w1 (i := c) (by omega)]
     rfl
   · refine Ev.bind c1 (Ev.bind l1 ?_)
     by_cases q1 : ltB (codes n l r (j + 1)) (codes n l r b) = true
     · rw [if_pos q1] at hs
       exact Ev.congr (fun k => if_pos q1) (hI _ _ hs)
     · rw [if_neg q1] at hs
       refine Ev.congr (fun k => if_neg q1) (Ev.bind l2 ?_)
       by_cases q2 : ltB (codes n l r b) (codes n l r (j + 1)) = true
       · rw [if_pos q2] at hs
         exact Ev.congr (fun k => if_pos q2) (hI _ _ hs)
       · rw [if_neg q2] at hs
         exact Ev.congr (fun k => if_neg q2) (hI _ _ hs)
theorem best_ev (h : IsMap n l r) (h0 : 0 < l.length) : Ev (fun k => canon_plane_best.f k (n : Int) (nxOf l r) (toOf l)) (codes n l r (bestOf n l r).1, (seenOf n l r (bestOf n l r).1).ord, ((bestOf n l r).2 : Int)) := by
 unfold canon_plane_best.f
 exact Ev.bind (code_ev h (root := 0) (by omega)) (best_loop h (2 * l.length - 1) 0 (by omega) 0 1 rfl)
end
end Go.Proofs.Yteeihjpnhjnknaa.Rot
namespace Go.Proofs.Yteeihjpnhjnknaa.Seen
open Go.RowKit Go.Proofs.YteeihjpnhjnknaaW.PrintWords Go.Proofs.Yteeihjpnhjnknaa.Mem
set_option linter.unusedVariables false
set_option linter.unusedSimpArgs false
def frm (tos : List Int) (h : Int) : Int := gi tos (tw h).toNat
def too (tos : List Int) (h : Int) : Int := gi tos h.toNat
structure Web (n : Nat) (nx tos : List Int) : Prop extends Fit n nx tos where
 inv : ∀ h : Nat, h < nx.length → tw (tw (h : Int)) = h
 fnext : ∀ h : Nat, h < nx.length → frm tos (gi nx h) = frm tos h
 around : ∀ x y : Nat, x < nx.length → y < nx.length → frm tos x = frm tos y → ∃ j, j < per nx (x : Int) ∧ it nx (x : Int) j = y
 conn : ∀ P : Nat → Prop, (∀ h : Nat, h < nx.length → P (frm tos h).toNat → P (too tos h).toNat) → ∀ a b, a < n → b < n → P a → P b
structure Inv (n : Nat) (tos : List Int) (s : St) : Prop where
 a : ∀ i, i < s.ord.length → gi s.num (gi s.ord i).toNat = (i : Int)
 b : ∀ v, v < n → 0 ≤ gi s.num v → ∃ i, i < s.ord.length ∧ gi s.num v = (i : Int) ∧ gi s.ord i = (v : Int)
 c : ∀ i, i < s.ent.length → frm tos (gi s.ent i) = gi s.ord i
structure Ext (s t : St) : Prop where
 num : ∀ v, 0 ≤ gi s.num v → gi t.num v = gi s.num v
 ent : ∃ x, t.ent = s.ent ++ x
 ord : ∃ x, t.ord = s.ord ++ x
theorem Ext.refl (s : St) : Ext s s := ⟨fun _ _ => rfl, ⟨[], by simp⟩, ⟨[], by simp⟩⟩
theorem Ext.trans {a b c : St} (h : Ext a b) (k : Ext b c) : Ext a c := by
 obtain ⟨x, hx⟩ := h.ent
 obtain ⟨y, hy⟩ := k.ent
 obtain ⟨u, hu⟩ := h.ord
 obtain ⟨v, hv⟩ := k.ord
 refine ⟨fun w hw => ?_, ⟨x ++ y, by rw [hy, hx, List.append_assoc]⟩, ⟨u ++ v, by rw [hv, hu, List.append_assoc]⟩⟩
 have := h.num w hw
 rw [k.num w (by rw [this]; exact hw), this]
theorem gi_pre {x y : List Int} {i : Nat} (h : i < x.length) : gi (x ++ y) i = gi x i := by
 unfold gi
 rw [List.getD_eq_getElem?_getD, List.getD_eq_getElem?_getD, List.getElem?_append_left h]
theorem Ext.gent {s t : St} (h : Ext s t) {i : Nat} (hi : i < s.ent.length) : gi t.ent i = gi s.ent i := by
 obtain ⟨x, hx⟩ := h.ent
 rw [hx, gi_pre hi]
theorem Ext.lent {s t : St} (h : Ext s t) : s.ent.length ≤ t.ent.length := by
 obtain ⟨x, hx⟩ := h.ent
 rw [hx, List.length_append]; omega
section
variable {n : Nat} {nx tos : List Int}
theorem step_ext (hf : Fit n nx tos) {s : St} (h : Ok n nx.length s) (q : Int) : Ext s (stepH tos s q) := by
 unfold stepH
 split
 · rename_i hn
   refine ⟨fun v hv => ?_, ⟨_, rfl⟩, ⟨_, rfl⟩⟩
   show gi (s.num.set _ _) v = _
   rw [gi_set, if_neg]
   rintro ⟨e, _⟩
   rw [e] at hn
   omega
 · exact ⟨fun _ _ => rfl, ⟨[], by simp⟩, ⟨[], by simp⟩⟩
theorem step_num (hf : Fit n nx tos) {s : St} (h : Ok n nx.length s) {q : Int} (h0 : 0 ≤ q) (h1 : q < (nx.length : Int)) :
   0 ≤ gi (stepH tos s q).num (too tos q).toNat ∧ (stepH tos s q).cd = s.cd ++ [gi (stepH tos s q).num (too tos q).toNat] := by
 obtain ⟨p, rfl⟩ := Int.eq_ofNat_of_zero_le h0
 have ht := hf.htos p (by omega)
 have hl : (gi tos ((p : Int)).toNat).toNat < s.num.length := by rw [h.num, Int.toNat_natCast]; omega
 unfold stepH too
 by_cases c : gi s.num (gi tos ((p : Int)).toNat).toNat < 0
 · rw [if_pos c]
   simp only
   rw [gi_set, if_pos ⟨rfl, hl⟩]
   exact ⟨by omega, rfl⟩
 · rw [if_neg c]
   exact ⟨Int.not_lt.1 c, rfl⟩
theorem step_inv (hw : Web n nx tos) {s : St} (h : Ok n nx.length s) (k : Inv n tos s) {q : Int} (h0 : 0 ≤ q) (h1 : q < (nx.length : Int)) : Inv n tos (stepH tos s q) := by
 obtain ⟨p, rfl⟩ := Int.eq_ofNat_of_zero_le h0
 have hp : p < nx.length := by omega
 have ht := hw.htos p hp
 unfold stepH
 rw [Int.toNat_natCast]
 by_cases c : gi s.num (gi tos p).toNat < 0
 · rw [if_pos c]
   have hl : (gi tos p).toNat < s.num.length := by rw [h.num]; omega
   have hE := h.ent
   refine ⟨fun i hi => ?_, fun v hv hn => ?_, fun i hi => ?_⟩
   · simp only [List.length_append, List.length_singleton] at hi
     simp only [gi_app, gi_set]
     by_cases d : i < s.ord.length
     · rw [if_pos d, if_neg, k.a i d]
       rintro ⟨e, _⟩
       have := k.a i d
       rw [← e] at this
       omega
     · obtain rfl : i = s.ord.length := by omega
       rw [if_neg d, if_pos rfl, if_pos ⟨rfl, hl⟩]
   · simp only [gi_set] at hn ⊢
     by_cases e : (gi tos p).toNat = v ∧ v < s.num.length
     · rw [if_pos e]
       refine ⟨s.ord.length, by simp, rfl, ?_⟩
       rw [gi_app, if_neg (by omega), if_pos rfl]; omega
     · rw [if_neg e] at hn ⊢
       obtain ⟨i, i1, i2, i3⟩ := k.b v hv hn
       exact ⟨i, by simp only [List.length_append]; omega, i2, by rw [gi_app, if_pos i1]; exact i3⟩
   · simp only [List.length_append, List.length_singleton] at hi
     simp only [gi_app]
     by_cases d : i < s.ent.length
     · rw [if_pos d, if_pos (by omega)]; exact k.c i d
     · rw [if_neg d, if_pos (by omega), if_neg (by omega), if_pos (by omega)]
       unfold frm
       rw [hw.inv p hp, Int.toNat_natCast]
 · rw [if_neg c]
   exact ⟨k.a, k.b, k.c⟩
theorem Inv.cd {s : St} (h : Inv n tos s) (c : List Int) : Inv n tos { s with cd := c } := ⟨h.a, h.b, h.c⟩
def rowTo (nx tos : List Int) (F : St) (h : Int) (j : Nat) : List Int := (List.range j).map fun t => gi F.num (too tos (it nx h t)).toNat
theorem turn_all (hw : Web n nx tos) {s : St} (h : Ok n nx.length s) (k : Inv n tos s) {q : Int} (h0 : 0 ≤ q) (h1 : q < (nx.length : Int)) : ∀ j, Inv n tos (turn nx tos s q j) ∧ Ext s (turn nx tos s q j) ∧ (∀ t, t < j → 0 ≤ gi (turn nx tos s q j).num (too tos (it nx q t)).toNat) ∧ ∀ F, Ext (turn nx tos s q j) F → (turn nx tos s q j).cd = s.cd ++ rowTo nx tos F q j
 | 0 => ⟨k, Ext.refl _, fun t ht => absurd ht (by omega), fun F _ => by simp [turn, rowTo]⟩
 | j + 1 => by
   obtain ⟨i1, i2, i3, i4⟩ := turn_all hw h k h0 h1 j
   have ho := h.turn hw.toFit h0 h1 j
   have hq := it_in hw.toFit h0 h1 j
   have e1 := step_ext hw.toFit ho (it nx q j)
   have e2 := step_num hw.toFit ho hq.1 hq.2
   refine ⟨step_inv hw ho i1 hq.1 hq.2, i2.trans e1, fun t ht => ?_, fun F hF => ?_⟩
   · show 0 ≤ gi (stepH tos (turn nx tos s q j) (it nx q j)).num _
     rcases Nat.lt_or_eq_of_le (Nat.le_of_lt_succ ht) with g | rfl
     · rw [e1.num _ (i3 t g)]; exact i3 t g
     · exact e2.1
   · show (stepH tos (turn nx tos s q j) (it nx q j)).cd = _
     have hF : Ext (stepH tos (turn nx tos s q j) (it nx q j)) F := hF
     rw [e2.2, i4 F (e1.trans hF)]
     unfold rowTo
     rw [List.range_succ, List.map_append, List.append_assoc, ← hF.num _ e2.1]
     rfl
def blk (row : List Int) : List Int := (row.length : Int) :: row
def rowF (nx tos : List Int) (F : St) (h : Int) : List Int := rowTo nx tos F h (per nx h)
theorem rowF_length (F : St) (h : Int) : (rowF nx tos F h).length = per nx h := by unfold rowF rowTo; simp
theorem vert_all (hw : Web n nx tos) {s : St} (h : Ok n nx.length s) (k : Inv n tos s) {q : Int} (h0 : 0 ≤ q) (h1 : q < (nx.length : Int)) :
   Inv n tos (vert nx tos s q) ∧ Ext s (vert nx tos s q) ∧ (∀ t, t < per nx q → 0 ≤ gi (vert nx tos s q).num (too tos (it nx q t)).toNat) ∧ ∀ F, Ext (vert nx tos s q) F → (vert nx tos s q).cd = s.cd ++ blk (rowF nx tos F q) := by
 obtain ⟨i1, i2, i3, i4⟩ := turn_all hw (h.cd []) (k.cd []) h0 h1 (per nx q)
 refine ⟨⟨i1.a, i1.b, i1.c⟩, ⟨i2.num, i2.ent, i2.ord⟩, i3, fun F hF => ?_⟩
 have := i4 F ⟨hF.num, hF.ent, hF.ord⟩
 show s.cd ++ ((per nx q : Nat) : Int) :: (turn nx tos { s with cd := [] } q (per nx q)).cd = _
 rw [this, List.nil_append]
 unfold blk
 rw [rowF_length]
 rfl
def Live (nx tos : List Int) (s : St) (k : Nat) : Prop := ∀ i, i < k → i < (upto nx tos s i).ent.length
structure Run (n : Nat) (nx tos : List Int) (s : St) (k : Nat) : Prop where
 ok : Ok n nx.length (upto nx tos s k)
 inv : Inv n tos (upto nx tos s k)
 ext : Ext s (upto nx tos s k)
 le : k ≤ (upto nx tos s k).ent.length
 met : ∀ i, i < k → ∀ t, t < per nx (gi (upto nx tos s k).ent i) → 0 ≤ gi (upto nx tos s k).num (too tos (it nx (gi (upto nx tos s k).ent i) t)).toNat
 cd : ∀ F, Ext (upto nx tos s k) F → (upto nx tos s k).cd = s.cd ++ (List.range k).flatMap fun i => blk (rowF nx tos F (gi F.ent i))
theorem run (hw : Web n nx tos) {s : St} (h : Ok n nx.length s) (g : Inv n tos s) : ∀ k, Live nx tos s k → Run n nx tos s k
 | 0, _ => ⟨h, g, Ext.refl _, Nat.zero_le _, fun i hi => absurd hi (by omega), fun F _ => by simp [upto]⟩
 | k + 1, hl => by
   have R := run hw h g k (fun i hi => hl i (by omega))
   have hk := hl k (by omega)
   have hq := R.ok.inE k hk
   obtain ⟨v1, v2, v3, v4⟩ := vert_all hw R.ok R.inv hq.1 hq.2
   have e := upto_go hk
   have hle := v2.lent
   refine ⟨h.upto hw.toFit _, by rw [e]; exact v1, by rw [e]; exact R.ext.trans v2, by rw [e]; omega, fun i hi t ht => ?_, fun F hF => ?_⟩
   · rw [e] at ht ⊢
     rcases Nat.lt_or_eq_of_le (Nat.le_of_lt_succ hi) with c | rfl
     · have e2 := v2.gent (i := i) (by omega)
       rw [e2] at ht ⊢
       have := R.met i c t ht
       rw [v2.num _ this]; exact this
     · have e2 := v2.gent (i := i) (by omega)
       rw [e2] at ht ⊢
       exact v3 t ht
   · rw [e] at hF ⊢
     rw [v4 F hF, R.cd F (v2.trans hF), List.range_succ, List.flatMap_append, List.append_assoc, ← (v2.trans hF).gent (i := k) (by omega)]
     simp
theorem ends (hw : Web n nx tos) {s : St} (h : Ok n nx.length s) (g : Inv n tos s) : ∃ k, k ≤ n ∧ Run n nx tos s k ∧ upto nx tos s n = upto nx tos s k ∧ (upto nx tos s k).ent.length = k := by
 have key : ∀ d k, k + d = n → Live nx tos s k → ∃ k, k ≤ n ∧ Run n nx tos s k ∧ upto nx tos s n = upto nx tos s k ∧ (upto nx tos s k).ent.length = k := by
   intro d
   induction d with
   | zero =>
     intro k hk hl
     obtain rfl : k = n := by omega
     have R := run hw h g k hl
     exact ⟨k, Nat.le_refl _, R, rfl, Nat.le_antisymm R.ok.le R.le⟩
   | succ d ih =>
     intro k hk hl
     by_cases c : k < (upto nx tos s k).ent.length
     · refine ih (k + 1) (by omega) (fun i hi => ?_)
       rcases Nat.lt_or_eq_of_le (Nat.le_of_lt_succ hi) with q | rfl
       · exact hl i q
       · exact c
     · have R := run hw h g k hl
       refine ⟨k, by omega, R, ?_, Nat.le_antisymm (by omega) R.le⟩
       have := upto_stop (nx := nx) (tos := tos) (s := s) (k := k) (by omega) (d + 1)
       rw [show n = k + (d + 1) by omega, this]
 exact key n 0 (by omega) (fun i hi => absurd hi (by omega))
structure Full (n : Nat) (nx tos : List Int) (root : Int) (F : St) : Prop where
 num : F.num.length = n
 ord : F.ord.length = n
 ent : F.ent.length = n
 inv : Inv n tos F
 pos : ∀ v, v < n → 0 ≤ gi F.num v
 inO : ∀ i, i < n → 0 ≤ gi F.ord i ∧ gi F.ord i < (n : Int)
 inE : ∀ i, i < n → 0 ≤ gi F.ent i ∧ gi F.ent i < (nx.length : Int)
 root : 0 < n ∧ gi F.ent 0 = root
 cd : F.cd = (List.range n).flatMap fun i => blk (rowF nx tos F (gi F.ent i))
theorem neg_none : ∀ (l : List Int), (∀ v, v < l.length → 0 ≤ gi l v) → neg l = 0
 | [], _ => rfl
 | a :: l, h => by
   have h1 : 0 ≤ a := h 0 (by simp)
   have h2 := neg_none l (fun v hv => h (v + 1) (by simp; omega))
   unfold neg at h2 ⊢
   rw [List.filter_cons_of_neg (by simpa using h1)]
   exact h2
theorem full (hw : Web n nx tos) {root : Nat} (hr : root < nx.length) : Full n nx tos (root : Int) (all n nx tos (root : Int)) := by
 have hv : 0 ≤ frm tos (root : Int) ∧ frm tos (root : Int) < (n : Int) := by
   have h1 := hw.htw root hr
   exact hw.htos _ (by omega)
 have hs : Ok n nx.length (start n tos (root : Int) (frm tos (root : Int))) := Ok.start (by omega) hv
 obtain ⟨v, hv2⟩ := Int.eq_ofNat_of_zero_le hv.1
 have hvn : v < n := by omega
 have hg : Inv n tos (start n tos (root : Int) (frm tos (root : Int))) := by
   unfold start
   rw [hv2, Int.toNat_natCast]
   refine ⟨fun i hi => ?_, fun u hu hn => ?_, fun i hi => ?_⟩
   · obtain rfl : i = 0 := by simpa using hi
     show gi ((List.replicate n (-1)).set v 0) ((v : Int)).toNat = 0
     rw [Int.toNat_natCast, gi_set, if_pos ⟨rfl, by simpa using hvn⟩]
   · simp only [gi_set] at hn ⊢
     by_cases e : v = u ∧ u < (List.replicate n (-1 : Int)).length
     · rw [if_pos e]
       exact ⟨0, by simp, rfl, by rw [e.1]; rfl⟩
     · rw [if_neg e] at hn
       unfold gi at hn
       rw [List.getD_eq_getElem?_getD, List.getElem?_replicate, if_pos hu] at hn
       exact absurd hn (by decide)
   · obtain rfl : i = 0 := by simpa using hi
     show frm tos (root : Int) = (v : Int)
     exact hv2
 obtain ⟨k, hk, R, e, hl⟩ := ends hw hs hg
 have hall : all n nx tos (root : Int) = upto nx tos (start n tos (root : Int) (frm tos (root : Int))) k := e
 have hE := R.ok.ent
 have hc := R.ok.cnt
 have h0 : 0 < k := by
   have := R.ext.lent
   have : (start n tos (root : Int) (frm tos (root : Int))).ent.length = 1 := rfl
   omega
 have hpos : ∀ u, u < n → 0 ≤ gi (upto nx tos (start n tos (root : Int) (frm tos (root : Int))) k).num u := by
   intro u hu
   have e0 := R.inv.a 0 (by omega)
   have o0 := R.ok.inO 0 (by omega)
   refine hw.conn (fun a => 0 ≤ gi (upto nx tos (start n tos (root : Int) (frm tos (root : Int))) k).num a) (fun h hh hP => ?_) (gi (upto nx tos (start n tos (root : Int) (frm tos (root : Int))) k).ord 0).toNat u (by omega) hu (by rw [e0]; omega)
   have hfr : 0 ≤ frm tos (h : Int) ∧ frm tos (h : Int) < (n : Int) := by
     have h1 := hw.htw h hh
     exact hw.htos _ (by omega)
   obtain ⟨i, i1, i2, i3⟩ := R.inv.b _ (by omega) hP
   have ic := R.inv.c i (by omega)
   rw [i3, Int.toNat_of_nonneg hfr.1] at ic
   obtain ⟨m1, m2⟩ := R.ok.inE i (by omega)
   obtain ⟨x, hx⟩ := Int.eq_ofNat_of_zero_le m1
   rw [hx] at ic m2
   obtain ⟨j, j1, j2⟩ := hw.around x h (by omega) hh ic
   have := R.met i (by omega) j (by rw [hx]; exact j1)
   rw [hx, j2] at this
   exact this
 have hz := neg_none _ (fun u hu => hpos u (by rw [R.ok.num] at hu; exact hu))
 have hkn : k = n := by omega
 rw [hall]
 subst hkn
 refine ⟨R.ok.num, by omega, hl, R.inv, hpos, fun i hi => R.ok.inO i (by omega), fun i hi => R.ok.inE i (by omega), ⟨h0, R.ext.gent (i := 0) (by show 0 < 1; omega)⟩, ?_⟩
 have := R.cd _ (Ext.refl _)
 exact this
theorem rows_eq : ∀ (X Y : List (List Int)), X.flatMap blk = Y.flatMap blk → X = Y
 | [], [], _ => rfl
 | [], y :: Y, h => by simp [blk] at h
 | x :: X, [], h => by simp [blk] at h
 | x :: X, y :: Y, h => by
   simp only [List.flatMap_cons, blk, List.cons_append, List.cons.injEq] at h
   obtain ⟨h1, h2⟩ := h
   obtain ⟨h3, h4⟩ := List.append_inj h2 (by omega)
   rw [h3, rows_eq X Y h4]
end
theorem full_cd {n : Nat} {nx tos : List Int} {root : Int} {F : St} (h : Full n nx tos root F) : F.cd = ((List.range n).map fun i => rowF nx tos F (gi F.ent i)).flatMap blk := by
 rw [h.cd, List.flatMap_map]
theorem full_rows {n n' : Nat} {nx tos nx' tos' : List Int} {root root' : Int} {F F' : St} (h : Full n nx tos root F) (h' : Full n' nx' tos' root' F') (e : F.cd = F'.cd) : n = n' ∧ ∀ i, i < n → rowF nx tos F (gi F.ent i) = rowF nx' tos' F' (gi F'.ent i) := by
 rw [full_cd h, full_cd h'] at e
 have k := rows_eq _ _ e
 have hl := congrArg List.length k
 simp only [List.length_map, List.length_range] at hl
 subst hl
 refine ⟨rfl, fun i hi => ?_⟩
 have := congrArg (fun x => x[i]?) k
 simpa [hi] using this
theorem full_inj {n : Nat} {nx tos : List Int} {root : Int} {F : St} (h : Full n nx tos root F) {i j : Nat} (hi : i < n) (hj : j < n) (e : gi F.ord i = gi F.ord j) : i = j := by
 have a := h.inv.a i (by rw [h.ord]; exact hi)
 have b := h.inv.a j (by rw [h.ord]; exact hj)
 rw [e, b] at a
 omega
end Go.Proofs.Yteeihjpnhjnknaa.Seen
namespace Go.Proofs.Yteeihjpnhjnknaa.Rot
open Go.RowKit Go.Proofs.YteeihjpnhjnknaaW.PrintWords Go.Proofs.YteeihjpnhjnknaaW.PrintLast Go.Proofs.YteeihjpnhjnknaaW.PrintMore Go.Proofs.Yteeihjpnhjnknaa.GAll Go.Proofs.Yteeihjpnhjnknaa.Mem Go.Proofs.Yteeihjpnhjnknaa.Seen
set_option linter.unusedVariables false
set_option linter.unusedSimpArgs false
theorem numTo_one {m : List Nat} (h0 : Sets.gt m 0 ≤ 0) : ∀ k, 0 < k → 1 ≤ (Sets.numTo m k).2 ∧ ((Sets.numTo m k).2 = 1 → ∀ i, 0 < i → i < k → Sets.gt m i < i)
 | 0, h => absurd h (by omega)
 | 1, _ => by
   have e : (Sets.numTo m 1).2 = 1 := by rw [Sets.numTo_new (by omega)]; rfl
   exact ⟨by omega, fun _ i h1 h2 => by omega⟩
 | k + 2, _ => by
   obtain ⟨a, b⟩ := numTo_one h0 (k + 1) (by omega)
   by_cases c : Sets.gt m (k + 1) < k + 1
   · rw [Sets.numTo_old c]
     refine ⟨a, fun e i h1 h2 => ?_⟩
     rcases Nat.lt_or_eq_of_le (Nat.le_of_lt_succ h2) with q | rfl
     · exact b e i h1 q
     · exact c
   · rw [Sets.numTo_new c]
     exact ⟨by omega, fun e => by omega⟩
theorem part_zero {n : Nat} {E : Nat → Nat → Prop} {m : List Nat} (h : Sets.Part n E m) (hone : (Sets.numTo m n).2 = 1) {i : Nat} (hi : i < n) : Sets.gt m i = 0 := by
 obtain ⟨_, b⟩ := numTo_one (h.le 0 (by omega)) n (by omega)
 have e := h.idem hi
 by_cases z : Sets.gt m i = 0
 · exact z
 · have := b hone (Sets.gt m i) (by omega) (h.lt hi)
   omega
theorem Conn_prop {E : Nat → Nat → Prop} {P : Nat → Prop} (hP : ∀ a b, E a b → (P a ↔ P b)) {a b : Nat} (h : Sets.Conn E a b) : P a → P b := by
 induction h with
 | refl => exact id
 | fwd _ e ih => exact fun x => (hP _ _ e).1 (ih x)
 | bwd _ e ih => exact fun x => (hP _ _ e).2 (ih x)
section
variable {n : Nat} {l : List Ed} {r : List (List Int)}
theorem frm_frs (hg : PureV.Good (n : Int) l) {h : Nat} (hh : h < 2 * l.length) : frm (toOf l) (h : Int) = gi (frs l) h := (from_to hg hh).1.symm
theorem tw_tw {h : Nat} (hh : h ≤ 8388608) : tw (tw (h : Int)) = h := by
 rw [tw_nat (by omega)]
 by_cases c : h % 2 = 0
 · rw [if_pos c, tw_nat (by omega), if_neg (by omega)]; rfl
 · rw [if_neg c, tw_nat (by omega), if_pos (by omega)]; omega
theorem one_part (h : IsMap n l r) (hp : parts n l = 1) (P : Nat → Prop) (hP : ∀ h : Nat, h < (nxOf l r).length → P (frm (toOf l) h).toNat → P (too (toOf l) h).toNat) : ∀ a b, a < n → b < n → P a → P b := by
 intro a b ha hb
 have hpt := Sets.joinAll_part n (ends l)
 have hone : (Sets.numTo (Sets.joinAll (List.range n) (ends l)) n).2 = 1 := by
   have := hp
   unfold parts comps_Of.out at this
   rw [Int.toNat_natCast] at this
   exact this
 have hc := (hpt.iff ha hb).1 (by rw [part_zero hpt hone ha, part_zero hpt hone hb])
 refine Conn_prop (fun u v hE => ?_) hc
 obtain ⟨hu, hv, hm⟩ := hE
 obtain ⟨i, hi, e⟩ := List.getElem_of_mem hm
 have hil : i < l.length := by rw [ends_length] at hi; exact hi
 have hpe : pe (ends l) i = ((u : Int), (v : Int)) := by
   rw [← e]
   unfold pe
   rw [List.getD_eq_getElem?_getD, List.getElem?_eq_getElem hi]; rfl
 have f1 := froms_even (ends l) i hi
 have t1 := Graph.tos_two (ends l) i hi
 rw [hpe] at f1 t1
 have k1 := hP (2 * i) (by rw [h.len]; omega)
 have k2 := hP (2 * i + 1) (by rw [h.len]; omega)
 rw [frm_frs h.good (by omega)] at k1 k2
 have g1 : gi (frs l) (2 * i) = (u : Int) := f1.1
 have g2 : gi (frs l) (2 * i + 1) = (v : Int) := f1.2
 have g3 : too (toOf l) ((2 * i : Nat) : Int) = (v : Int) := by unfold too; rw [Int.toNat_natCast]; exact t1.1
 have g4 : too (toOf l) ((2 * i + 1 : Nat) : Int) = (u : Int) := by unfold too; rw [Int.toNat_natCast]; exact t1.2
 rw [g1, g3, Int.toNat_natCast, Int.toNat_natCast] at k1
 rw [g2, g4, Int.toNat_natCast, Int.toNat_natCast] at k2
 exact ⟨k1, k2⟩
theorem web (h : IsMap n l r) (hp : parts n l = 1) : Web n (nxOf l r) (toOf l) := by
 have hlen := h.len
 have hll := h.good.2.2.1
 have hfl := frs_length l
 have hx := nxOf_next h.rot
 refine { toFit := h.fit, inv := fun x hh => tw_tw (by omega), fnext := fun x hh => ?_, around := fun x y hh hy e => ?_, conn := one_part h hp }
 · obtain ⟨a, b, c⟩ := next_in h.rot hx (frs_in h.good) (show x < (frs l).length by omega)
   obtain ⟨y, hy⟩ := Int.eq_ofNat_of_zero_le a
   rw [frm_frs h.good (by omega), hy, frm_frs h.good (by omega)]
   rw [hy, Int.toNat_natCast] at c
   exact c
 · obtain ⟨v, j, h1, h2, h3, h4⟩ := h.rot.place (frs_in h.good) (show x < (frs l).length by omega)
   obtain ⟨u, i, g1, g2, g3, g4⟩ := h.rot.place (frs_in h.good) (show y < (frs l).length by omega)
   rw [frm_frs h.good (by omega), frm_frs h.good (by omega), h2, g2] at e
   obtain rfl : v = u := by omega
   have hper := per_row h.rot hx h1 h3
   rw [h4] at hper
   refine ⟨(i + (gl r v).length - j) % (gl r v).length, ?_, ?_⟩
   · rw [hper]; exact Nat.mod_lt _ (by omega)
   · rw [← h4, it_at h.rot hx h1 h3, Nat.add_mod_mod, show j + (i + (gl r v).length - j) = i + (gl r v).length by omega, Nat.add_mod_right, Nat.mod_eq_of_lt g3, g4]
theorem half_one (hg : PureV.Good (n : Int) l) {x y : Nat} (hx : x < 2 * l.length) (hy : y < 2 * l.length) (h1 : frm (toOf l) (x : Int) = frm (toOf l) (y : Int)) (h2 : too (toOf l) (x : Int) = too (toOf l) (y : Int)) : x = y := by
 have sorted : ∀ d i, i + d + 1 < l.length → PureV.lt (PureV.rdE l (i : Nat)) (PureV.rdE l ((i + d + 1 : Nat) : Int)) := by
   intro d
   induction d with
   | zero =>
     intro i hi
     have := (hg.2.2.2 (i + 0 + 1) hi).2 (by omega)
     exact this
   | succ d ih =>
     intro i hi
     have a := ih i (by omega)
     have b := (hg.2.2.2 (i + d + 1 + 1) (by omega)).2 (by omega)
     rw [show i + d + 1 + 1 - 1 = i + d + 1 by omega] at b
     unfold PureV.lt at a b ⊢
     rw [show i + (d + 1) + 1 = i + d + 1 + 1 by omega]
     omega
 have two : ∀ i, i < l.length → (frm (toOf l) ((2 * i : Nat) : Int) = (PureV.rdE l (i : Nat)).f0 ∧ too (toOf l) ((2 * i : Nat) : Int) = (PureV.rdE l (i : Nat)).f1) ∧ (frm (toOf l) ((2 * i + 1 : Nat) : Int) = (PureV.rdE l (i : Nat)).f1 ∧ too (toOf l) ((2 * i + 1 : Nat) : Int) = (PureV.rdE l (i : Nat)).f0) := by
   intro i hi
   have t1 := Graph.tos_two (ends l) i (by rw [ends_length]; exact hi)
   rw [pe_ends hi] at t1
   refine ⟨⟨by rw [frm_frs hg (by omega), frs_even hi], ?_⟩, by rw [frm_frs hg (by omega), frs_odd hi], ?_⟩
   · unfold too; rw [Int.toNat_natCast]; exact t1.1
   · unfold too; rw [Int.toNat_natCast]; exact t1.2
 have same : ∀ i j, i < l.length → j < l.length → (PureV.rdE l (i : Nat)).f0 = (PureV.rdE l (j : Nat)).f0 → (PureV.rdE l (i : Nat)).f1 = (PureV.rdE l (j : Nat)).f1 → i = j := by
   intro i j hi hj e1 e2
   rcases Nat.lt_trichotomy i j with c | c | c
   · have := sorted (j - i - 1) i (by omega)
     rw [show i + (j - i - 1) + 1 = j by omega] at this
     unfold PureV.lt at this; omega
   · exact c
   · have := sorted (i - j - 1) j (by omega)
     rw [show j + (i - j - 1) + 1 = i by omega] at this
     unfold PureV.lt at this; omega
 have ok : ∀ i, i < l.length → (PureV.rdE l (i : Nat)).f0 < (PureV.rdE l (i : Nat)).f1 := fun i hi => (hg.2.2.2 i hi).1.2.1
 have p1 := two (x / 2) (by omega)
 have p2 := two (y / 2) (by omega)
 have o1 := ok (x / 2) (by omega)
 have o2 := ok (y / 2) (by omega)
 rcases Nat.mod_two_eq_zero_or_one x with ex | ex <;> rcases Nat.mod_two_eq_zero_or_one y with ey | ey
 · rw [show x = 2 * (x / 2) by omega, show y = 2 * (y / 2) by omega, p1.1.1, p2.1.1] at h1
   rw [show x = 2 * (x / 2) by omega, show y = 2 * (y / 2) by omega, p1.1.2, p2.1.2] at h2
   have := same _ _ (by omega) (by omega) h1 h2
   omega
 · rw [show x = 2 * (x / 2) by omega, show y = 2 * (y / 2) + 1 by omega, p1.1.1, p2.2.1] at h1
   rw [show x = 2 * (x / 2) by omega, show y = 2 * (y / 2) + 1 by omega, p1.1.2, p2.2.2] at h2
   omega
 · rw [show x = 2 * (x / 2) + 1 by omega, show y = 2 * (y / 2) by omega, p1.2.1, p2.1.1] at h1
   rw [show x = 2 * (x / 2) + 1 by omega, show y = 2 * (y / 2) by omega, p1.2.2, p2.1.2] at h2
   omega
 · rw [show x = 2 * (x / 2) + 1 by omega, show y = 2 * (y / 2) + 1 by omega, p1.2.1, p2.2.1] at h1
   rw [show x = 2 * (x / 2) + 1 by omega, show y = 2 * (y / 2) + 1 by omega, p1.2.2, p2.2.2] at h2
   have := same _ _ (by omega) (by omega) h2 h1
   omega
end
end Go.Proofs.Yteeihjpnhjnknaa.Rot
namespace Go.Proofs.Yteeihjpnhjnknaa.Seen
open Go.RowKit Go.Proofs.YteeihjpnhjnknaaW.PrintWords Go.Proofs.Yteeihjpnhjnknaa.Mem
set_option linter.unusedVariables false
set_option linter.unusedSimpArgs false
def In (nx : List Int) (x : Int) : Prop := 0 ≤ x ∧ x < (nx.length : Int)
structure Aut (nx tos : List Int) (f : Int → Int) : Prop where
 map : ∀ x, In nx x → In nx (f x)
 next : ∀ x, In nx x → f (gi nx x.toNat) = gi nx (f x).toNat
 twin : ∀ x, In nx x → f (tw x) = tw (f x)
 inj : ∀ x y, In nx x → In nx y → f x = f y → x = y
def Simple (nx tos : List Int) : Prop := ∀ x y : Nat, x < nx.length → y < nx.length → frm tos x = frm tos y → too tos x = too tos y → x = y
section
variable {n : Nat} {nx tos : List Int} {f g : Int → Int}
theorem In.nat {x : Int} (h : In nx x) : ∃ k : Nat, x = k ∧ k < nx.length := by
 obtain ⟨k, rfl⟩ := Int.eq_ofNat_of_zero_le h.1
 exact ⟨k, rfl, by have := h.2; omega⟩
theorem In.next (hw : Web n nx tos) {x : Int} (h : In nx x) : In nx (gi nx x.toNat) := by
 obtain ⟨k, rfl, hk⟩ := h.nat
 exact hw.hnx k hk
theorem In.twin (hw : Web n nx tos) {x : Int} (h : In nx x) : In nx (tw x) := by
 obtain ⟨k, rfl, hk⟩ := h.nat
 exact hw.htw k hk
theorem In.it (hw : Web n nx tos) {x : Int} (h : In nx x) : ∀ j, In nx (it nx x j) := it_in hw.toFit h.1 h.2
theorem Web.tt (hw : Web n nx tos) {x : Int} (h : In nx x) : tw (tw x) = x := by
 obtain ⟨k, rfl, hk⟩ := h.nat
 exact hw.inv k hk
theorem Web.fr (hw : Web n nx tos) {x : Int} (h : In nx x) : 0 ≤ frm tos x ∧ frm tos x < (n : Int) := by
 obtain ⟨a, b⟩ := h.twin hw
 exact hw.htos _ (by omega)
theorem Web.to (hw : Web n nx tos) {x : Int} (h : In nx x) : 0 ≤ too tos x ∧ too tos x < (n : Int) := by
 obtain ⟨a, b⟩ := h
 exact hw.htos _ (by omega)
theorem Web.ft (hw : Web n nx tos) {x : Int} (h : In nx x) : frm tos (tw x) = too tos x := by
 unfold frm too; rw [hw.tt h]
theorem Web.fit' (hw : Web n nx tos) {x : Int} (h : In nx x) : ∀ j, frm tos (Seen.it nx x j) = frm tos x
 | 0 => rfl
 | j + 1 => by
   obtain ⟨k, e, hk⟩ := (h.it hw j).nat
   show frm tos (gi nx (Seen.it nx x j).toNat) = _
   rw [← hw.fit' h j, e, Int.toNat_natCast]
   exact hw.fnext k hk
theorem Web.arnd (hw : Web n nx tos) {x y : Int} (hx : In nx x) (hy : In nx y) (e : frm tos x = frm tos y) : ∃ j, j < per nx x ∧ Seen.it nx x j = y := by
 obtain ⟨k, rfl, hk⟩ := hx.nat
 obtain ⟨i, rfl, hi⟩ := hy.nat
 exact hw.around k i hk hi e
theorem Aut.it (hw : Web n nx tos) (h : Aut nx tos f) {x : Int} (hx : In nx x) : ∀ j, f (it nx x j) = it nx (f x) j
 | 0 => rfl
 | j + 1 => by
   show f (gi nx (Seen.it nx x j).toNat) = gi nx (Seen.it nx (f x) j).toNat
   rw [h.next _ (hx.it hw j), Aut.it hw h hx j]
theorem Aut.frm_iff (hw : Web n nx tos) (h : Aut nx tos f) {x y : Int} (hx : In nx x) (hy : In nx y) : frm tos (f x) = frm tos (f y) ↔ frm tos x = frm tos y := by
 constructor
 · intro e
   obtain ⟨j, _, hj⟩ := hw.arnd (h.map x hx) (h.map y hy) e
   rw [← h.it hw hx] at hj
   rw [← h.inj _ _ (hx.it hw j) hy hj, hw.fit' hx]
 · intro e
   obtain ⟨j, _, hj⟩ := hw.arnd hx hy e
   rw [← hj, h.it hw hx, hw.fit' (h.map x hx)]
theorem Aut.to (hw : Web n nx tos) (h : Aut nx tos f) {x : Int} (hx : In nx x) : too tos (f x) = frm tos (f (tw x)) := by
 rw [h.twin x hx, hw.ft (h.map x hx)]
theorem Aut.per (hw : Web n nx tos) (h : Aut nx tos f) {x : Int} (hx : In nx x) : per nx (f x) = per nx x := by
 unfold Seen.per
 have e : (fun j => Seen.it nx (f x) (j + 1) == f x) = fun j => Seen.it nx x (j + 1) == x := by
   funext j
   rw [← h.it hw hx, Bool.eq_iff_iff, beq_iff_eq, beq_iff_eq]
   exact ⟨fun q => h.inj _ _ (hx.it hw _) hx q, fun q => by rw [q]⟩
 rw [e]
theorem Aut.eq (hw : Web n nx tos) (hf : Aut nx tos f) (hg : Aut nx tos g) {y : Int} (hy : In nx y) (e : f y = g y) : ∀ x, In nx x → f x = g x := by
 have same : ∀ x z, In nx x → In nx z → f x = g x → frm tos z = frm tos x → f z = g z := by
   intro x z hx hz e1 e2
   obtain ⟨j, _, hj⟩ := hw.arnd hx hz e2.symm
   rw [← hj, hf.it hw hx, hg.it hw hx, e1]
 have key := hw.conn (fun v => ∀ x, In nx x → frm tos x = (v : Int) → f x = g x) (fun h hh hP z hz ez => by
   have hI : In nx (h : Int) := ⟨by omega, by omega⟩
   have h1 := hw.fr hI
   have h2 := hw.to hI
   have e1 := hP h hI (by omega)
   have e2 : f (tw (h : Int)) = g (tw (h : Int)) := by rw [hf.twin _ hI, hg.twin _ hI, e1]
   refine same (tw (h : Int)) z (hI.twin hw) hz e2 ?_
   rw [hw.ft hI, ez]; omega)
 intro x hx
 have h1 := hw.fr hx
 have h2 := hw.fr hy
 refine key (frm tos y).toNat (frm tos x).toNat (by omega) (by omega) (fun z hz ez => ?_) x hx (by omega)
 exact same y z hy hz e (by omega)
structure Sim (nx tos : List Int) (f : Int → Int) (s t : St) : Prop where
 ent : t.ent = s.ent.map f
 cd : t.cd = s.cd
 ord : t.ord.length = s.ord.length
 num : ∀ x, In nx x → gi t.num (frm tos (f x)).toNat = gi s.num (frm tos x).toNat
theorem Sim.step (hw : Web n nx tos) (h : Aut nx tos f) {s t : St} (k : Sim nx tos f s t) (os : Ok n nx.length s) (ot : Ok n nx.length t) {q : Int} (hq : In nx q) : Sim nx tos f (stepH tos s q) (stepH tos t (f q)) := by
 have e1 : gi tos q.toNat = frm tos (tw q) := (hw.ft hq).symm
 have e2 : gi tos (f q).toNat = frm tos (f (tw q)) := h.to hw hq
 have e3 := k.num _ (hq.twin hw)
 have b1 := hw.fr (hq.twin hw)
 have b2 := hw.fr (h.map _ (hq.twin hw))
 unfold stepH
 rw [e1, e2, e3]
 by_cases c : gi s.num (frm tos (tw q)).toNat < 0
 · rw [if_pos c, if_pos c]
   refine ⟨?_, ?_, ?_, fun x hx => ?_⟩
   · show t.ent ++ [tw (f q)] = (s.ent ++ [tw q]).map f
     rw [k.ent, List.map_append, List.map_singleton, h.twin q hq]
   · show t.cd ++ [(t.ord.length : Int)] = s.cd ++ [(s.ord.length : Int)]
     rw [k.cd, k.ord]
   · show (t.ord ++ [_]).length = (s.ord ++ [_]).length
     simp [k.ord]
   · show gi (t.num.set _ _) _ = gi (s.num.set _ _) _
     have b3 := hw.fr hx
     have b4 := hw.fr (h.map _ hx)
     rw [gi_set, gi_set, k.num x hx, k.ord, os.num, ot.num]
     have := h.frm_iff hw (hq.twin hw) hx
     by_cases e : frm tos (tw q) = frm tos x
     · rw [if_pos ⟨by rw [this.2 e], by omega⟩, if_pos ⟨by rw [e], by omega⟩]
     · rw [if_neg (fun w => e (this.1 (by have := w.1; omega))), if_neg (fun w => e (by have := w.1; omega))]
 · rw [if_neg c, if_neg c]
   exact ⟨k.ent, by show t.cd ++ _ = s.cd ++ _; rw [k.cd], k.ord, k.num⟩
theorem Sim.turn (hw : Web n nx tos) (h : Aut nx tos f) {s t : St} (k : Sim nx tos f s t) (os : Ok n nx.length s) (ot : Ok n nx.length t) {q : Int} (hq : In nx q) : ∀ j, Sim nx tos f (turn nx tos s q j) (turn nx tos t (f q) j)
 | 0 => k
 | j + 1 => by
   have ih := Sim.turn hw h k os ot hq j
   show Sim nx tos f (stepH tos (Seen.turn nx tos s q j) (Seen.it nx q j)) (stepH tos (Seen.turn nx tos t (f q) j) (Seen.it nx (f q) j))
   rw [← h.it hw hq]
   have hf := h.map q hq
   exact ih.step hw h (os.turn hw.toFit hq.1 hq.2 j) (ot.turn hw.toFit hf.1 hf.2 j) (hq.it hw j)
theorem Sim.vert (hw : Web n nx tos) (h : Aut nx tos f) {s t : St} (k : Sim nx tos f s t) (os : Ok n nx.length s) (ot : Ok n nx.length t) {q : Int} (hq : In nx q) : Sim nx tos f (vert nx tos s q) (vert nx tos t (f q)) := by
 have k0 : Sim nx tos f { s with cd := [] } { t with cd := [] } := ⟨k.ent, rfl, k.ord, k.num⟩
 have key := k0.turn hw h (os.cd []) (ot.cd []) hq (Seen.per nx q)
 have e : Seen.vert nx tos t (f q) = { Seen.turn nx tos { t with cd := [] } (f q) (Seen.per nx q) with cd := t.cd ++ ((Seen.per nx q : Nat) : Int) :: (Seen.turn nx tos { t with cd := [] } (f q) (Seen.per nx q)).cd } := by
   unfold Seen.vert
   rw [h.per hw hq]
 rw [e]
 refine ⟨key.ent, ?_, key.ord, key.num⟩
 show t.cd ++ _ :: _ = s.cd ++ _ :: _
 rw [k.cd, key.cd]
theorem Sim.upto (hw : Web n nx tos) (h : Aut nx tos f) {s t : St} (k : Sim nx tos f s t) (os : Ok n nx.length s) (ot : Ok n nx.length t) : ∀ j, Sim nx tos f (upto nx tos s j) (upto nx tos t j)
 | 0 => k
 | j + 1 => by
   have ih := Sim.upto hw h k os ot j
   have hl : (Seen.upto nx tos t j).ent.length = (Seen.upto nx tos s j).ent.length := by rw [ih.ent, List.length_map]
   have o1 := os.upto hw.toFit j
   have o2 := ot.upto hw.toFit j
   by_cases c : j < (Seen.upto nx tos s j).ent.length
   · have c2 : j < (Seen.upto nx tos t j).ent.length := by rw [hl]; exact c
     rw [upto_go c, upto_go c2]
     have e : gi (Seen.upto nx tos t j).ent j = f (gi (Seen.upto nx tos s j).ent j) := by
       rw [ih.ent]
       unfold gi
       rw [List.getD_eq_getElem?_getD, List.getD_eq_getElem?_getD, List.getElem?_map, List.getElem?_eq_getElem c]
       rfl
     rw [e]
     exact ih.vert hw h o1 o2 (o1.inE j c)
   · have e1 : Seen.upto nx tos s (j + 1) = Seen.upto nx tos s j := by rw [Seen.upto, if_neg c]
     have e2 : Seen.upto nx tos t (j + 1) = Seen.upto nx tos t j := by rw [Seen.upto, if_neg (by rw [hl]; exact c)]
     rw [e1, e2]; exact ih
theorem Aut.code (hw : Web n nx tos) (h : Aut nx tos f) {y : Int} (hy : In nx y) : (all n nx tos (f y)).cd = (all n nx tos y).cd := by
 have b1 := hw.fr hy
 have b2 := hw.fr (h.map y hy)
 have hf := h.map y hy
 have k : Sim nx tos f (start n tos y (frm tos y)) (start n tos (f y) (frm tos (f y))) := by
   unfold start
   refine ⟨List.map_singleton.symm, rfl, by simp only [List.length_singleton], fun x hx => ?_⟩
   show gi ((List.replicate n (-1)).set _ 0) _ = gi ((List.replicate n (-1)).set _ 0) _
   have b3 := hw.fr hx
   have b4 := hw.fr (h.map _ hx)
   have := h.frm_iff hw hy hx
   have hr : ∀ v : Nat, v < n → gi (List.replicate n (-1)) v = -1 := fun v hv => by
     unfold gi
     rw [List.getD_eq_getElem?_getD, List.getElem?_replicate, if_pos hv]; rfl
   rw [gi_set, gi_set, hr _ (by omega), hr _ (by omega)]
   by_cases e : frm tos y = frm tos x
   · rw [if_pos ⟨by rw [this.2 e], by simp; omega⟩, if_pos ⟨by rw [e], by simp; omega⟩]
   · rw [if_neg (fun w => e (this.1 (by have := w.1; omega))), if_neg (fun w => e (by have := w.1; omega))]
 exact (k.upto hw h (Ok.start hy b1) (Ok.start hf b2) n).cd
end
end Go.Proofs.Yteeihjpnhjnknaa.Seen
namespace Go.Proofs.Yteeihjpnhjnknaa.Seen
open Go.RowKit Go.Proofs.YteeihjpnhjnknaaW.PrintWords Go.Proofs.Yteeihjpnhjnknaa.Mem
set_option linter.unusedVariables false
set_option linter.unusedSimpArgs false
section
variable {n : Nat} {nx tos : List Int}
def psi (F G : St) (v : Int) : Int := gi G.ord (gi F.num v.toNat).toNat
theorem iso (hw : Web n nx tos) (hs : Simple nx tos) {g h : Nat} (hg : g < nx.length) (hh : h < nx.length) (e : (all n nx tos (g : Int)).cd = (all n nx tos (h : Int)).cd) : ∃ f, Aut nx tos f ∧ f (g : Int) = (h : Int) := by
 obtain ⟨F, hF⟩ : ∃ F, F = all n nx tos (g : Int) := ⟨_, rfl⟩
 obtain ⟨G, hG⟩ : ∃ G, G = all n nx tos (h : Int) := ⟨_, rfl⟩
 have FF : Full n nx tos (g : Int) F := by rw [hF]; exact full hw hg
 have GG : Full n nx tos (h : Int) G := by rw [hG]; exact full hw hh
 rw [← hF, ← hG] at e
 clear hF hG
 obtain ⟨_, hrow⟩ := full_rows FF GG e
 have hper : ∀ i, i < n → per nx (gi F.ent i) = per nx (gi G.ent i) := fun i hi => by
   have := congrArg List.length (hrow i hi)
   rw [rowF_length, rowF_length] at this; exact this
 have ent_frm : ∀ i, i < n → frm tos (gi F.ent i) = gi F.ord i ∧ frm tos (gi G.ent i) = gi G.ord i := fun i hi => ⟨FF.inv.c i (by rw [FF.ent]; exact hi), GG.inv.c i (by rw [GG.ent]; exact hi)⟩
 have numF : ∀ v : Nat, v < n → ∃ i, i < n ∧ gi F.num v = (i : Int) ∧ gi F.ord i = (v : Int) := fun v hv => by
   obtain ⟨i, i1, i2, i3⟩ := FF.inv.b v hv (FF.pos v hv)
   exact ⟨i, by rw [FF.ord] at i1; exact i1, i2, i3⟩
 have numG : ∀ v : Nat, v < n → ∃ i, i < n ∧ gi G.num v = (i : Int) ∧ gi G.ord i = (v : Int) := fun v hv => by
   obtain ⟨i, i1, i2, i3⟩ := GG.inv.b v hv (GG.pos v hv)
   exact ⟨i, by rw [GG.ord] at i1; exact i1, i2, i3⟩
 have psi_ord : ∀ i, i < n → psi F G (gi F.ord i) = gi G.ord i := fun i hi => by
   unfold psi
   rw [FF.inv.a i (by rw [FF.ord]; exact hi), Int.toNat_natCast]
 have psi_inj : ∀ a b : Int, 0 ≤ a → a < n → 0 ≤ b → b < n → psi F G a = psi F G b → a = b := by
   intro a b a0 a1 b0 b1 q
   obtain ⟨a, rfl⟩ := Int.eq_ofNat_of_zero_le a0
   obtain ⟨b, rfl⟩ := Int.eq_ofNat_of_zero_le b0
   obtain ⟨i, i1, i2, i3⟩ := numF a (by omega)
   obtain ⟨j, j1, j2, j3⟩ := numF b (by omega)
   rw [← i3, ← j3, psi_ord i i1, psi_ord j j1] at q
   rw [← i3, ← j3, full_inj GG i1 j1 q]
 have place : ∀ i, i < n → ∀ j, j < per nx (gi F.ent i) → frm tos (it nx (gi G.ent i) j) = psi F G (frm tos (it nx (gi F.ent i) j)) ∧ too tos (it nx (gi G.ent i) j) = psi F G (too tos (it nx (gi F.ent i) j)) := by
   intro i hi j hj
   have iF : In nx (gi F.ent i) := FF.inE i hi
   have iG : In nx (gi G.ent i) := GG.inE i hi
   refine ⟨by rw [hw.fit' iG, hw.fit' iF, (ent_frm i hi).1, (ent_frm i hi).2, psi_ord i hi], ?_⟩
   have := congrArg (fun x => gi x j) (hrow i hi)
   have hr : ∀ (F : St) (q : Int), j < per nx q → gi (rowF nx tos F q) j = gi F.num (too tos (it nx q j)).toNat := fun F q hq => by
     unfold rowF rowTo gi
     rw [List.getD_eq_getElem?_getD, List.getElem?_map, List.getElem?_range hq]; rfl
   rw [hr F _ hj, hr G _ (by rw [← hper i hi]; exact hj)] at this
   have t1 := hw.to (iF.it hw j)
   have t2 := hw.to (iG.it hw j)
   obtain ⟨k, k1, k2, k3⟩ := numG (too tos (it nx (gi G.ent i) j)).toNat (by omega)
   unfold psi
   rw [this, k2, Int.toNat_natCast, k3]
   omega
 have places : ∀ x, In nx x → ∃ i j, i < n ∧ j < per nx (gi F.ent i) ∧ it nx (gi F.ent i) j = x := by
   intro x hx
   have b := hw.fr hx
   obtain ⟨i, i1, i2, i3⟩ := numF (frm tos x).toNat (by omega)
   have iF : In nx (gi F.ent i) := FF.inE i i1
   obtain ⟨j, j1, j2⟩ := hw.arnd iF hx (by rw [(ent_frm i i1).1, i3]; omega)
   exact ⟨i, j, i1, j1, j2⟩
 have uniq : ∀ x y, In nx x → In nx y → frm tos x = frm tos y → too tos x = too tos y → x = y := by
   intro x y hx hy e1 e2
   obtain ⟨a, rfl, ha⟩ := hx.nat
   obtain ⟨b, rfl, hb⟩ := hy.nat
   rw [hs a b ha hb e1 e2]
 have img : ∀ x, ∃ y, In nx x → In nx y ∧ frm tos y = psi F G (frm tos x) ∧ too tos y = psi F G (too tos x) := by
   intro x
   by_cases hx : In nx x
   · obtain ⟨i, j, i1, j1, rfl⟩ := places x hx
     have iG : In nx (gi G.ent i) := GG.inE i i1
     exact ⟨it nx (gi G.ent i) j, fun _ => ⟨iG.it hw j, place i i1 j j1⟩⟩
   · exact ⟨0, fun q => absurd q hx⟩
 obtain ⟨f, hf⟩ := Classical.axiomOfChoice img
 have fpl : ∀ i, i < n → ∀ j, j < per nx (gi F.ent i) → f (it nx (gi F.ent i) j) = it nx (gi G.ent i) j := by
   intro i hi j hj
   have iF : In nx (gi F.ent i) := FF.inE i hi
   have iG : In nx (gi G.ent i) := GG.inE i hi
   obtain ⟨a, b, c⟩ := hf _ (iF.it hw j)
   obtain ⟨d1, d2⟩ := place i hi j hj
   exact uniq _ _ a (iG.it hw j) (by rw [b, d1]) (by rw [c, d2])
 refine ⟨f, ⟨fun x hx => (hf x hx).1, fun x hx => ?_, fun x hx => ?_, fun x y hx hy q => ?_⟩, ?_⟩
 · obtain ⟨i, j, i1, j1, rfl⟩ := places x hx
   have iF : In nx (gi F.ent i) := FF.inE i i1
   have iG : In nx (gi G.ent i) := GG.inE i i1
   have pF : 0 < per nx (gi F.ent i) := by omega
   rw [fpl i i1 j j1]
   show f (it nx (gi F.ent i) (j + 1)) = it nx (gi G.ent i) (j + 1)
   by_cases c : j + 1 < per nx (gi F.ent i)
   · exact fpl i i1 (j + 1) c
   · have c2 : j + 1 = per nx (gi F.ent i) := by omega
     have e1 := (per_spec pF).1
     have e2 := (per_spec (nx := nx) (h := gi G.ent i) (by rw [← hper i i1]; exact pF)).1
     rw [← c2] at e1
     rw [← hper i i1, ← c2] at e2
     rw [e1, e2]
     exact fpl i i1 0 pF
 · obtain ⟨a, b, c⟩ := hf x hx
   obtain ⟨a2, b2, c2⟩ := hf _ (hx.twin hw)
   refine uniq _ _ a2 (a.twin hw) ?_ ?_
   · rw [b2, hw.ft hx, hw.ft a, c]
   · have e1 : too tos (tw x) = frm tos x := rfl
     have e2 : too tos (tw (f x)) = frm tos (f x) := rfl
     rw [c2, e1, e2, b]
 · obtain ⟨a, b, c⟩ := hf x hx
   obtain ⟨a2, b2, c2⟩ := hf y hy
   have f1 := hw.fr hx
   have f2 := hw.fr hy
   have t1 := hw.to hx
   have t2 := hw.to hy
   exact uniq x y hx hy (psi_inj _ _ f1.1 f1.2 f2.1 f2.2 (by rw [← b, ← b2, q])) (psi_inj _ _ t1.1 t1.2 t2.1 t2.2 (by rw [← c, ← c2, q]))
 · have p0 : 0 < per nx (gi F.ent 0) := by rw [FF.root.2]; exact hw.hper g hg
   have := fpl 0 FF.root.1 0 p0
   have e1 : it nx (gi F.ent 0) 0 = gi F.ent 0 := rfl
   have e2 : it nx (gi G.ent 0) 0 = gi G.ent 0 := rfl
   rw [e1, e2, FF.root.2, GG.root.2] at this
   exact this
def cls (n : Nat) (nx tos : List Int) (x : Nat) : List Nat := (List.range nx.length).filter fun y => decide ((all n nx tos (y : Int)).cd = (all n nx tos (x : Int)).cd)
theorem mem_cls {x y : Nat} : y ∈ cls n nx tos x ↔ y < nx.length ∧ (all n nx tos (y : Int)).cd = (all n nx tos (x : Int)).cd := by
 unfold cls
 rw [List.mem_filter, List.mem_range, decide_eq_true_eq]
theorem cls_nodup (x : Nat) : (cls n nx tos x).Nodup := List.Pairwise.filter _ List.nodup_range
theorem inj_le : ∀ (l m : List Nat) (t : Nat → Nat), l.Nodup → (∀ x ∈ l, t x ∈ m) → (∀ x ∈ l, ∀ y ∈ l, t x = t y → x = y) → l.length ≤ m.length
 | [], m, _, _, _, _ => Nat.zero_le _
 | a :: l, m, t, hn, hs, hi => by
   rw [List.nodup_cons] at hn
   have ha := hs a (List.mem_cons_self ..)
   have h := inj_le l (m.erase (t a)) t hn.2 (fun x hx => (List.mem_erase_of_ne (fun e => hn.1 (by rw [← hi x (List.mem_cons_of_mem _ hx) a (List.mem_cons_self ..) e]; exact hx))).2 (hs x (List.mem_cons_of_mem _ hx))) (fun x hx y hy => hi x (List.mem_cons_of_mem _ hx) y (List.mem_cons_of_mem _ hy))
   rw [List.length_erase_of_mem ha] at h
   have := List.length_pos_of_mem ha
   simp; omega
theorem cls_le (hw : Web n nx tos) (hs : Simple nx tos) {g x : Nat} (hg : g < nx.length) (hx : x < nx.length) : (cls n nx tos g).length ≤ (cls n nx tos x).length := by
 have hgI : In nx (g : Int) := ⟨by omega, by omega⟩
 have hxI : In nx (x : Int) := ⟨by omega, by omega⟩
 have img : ∀ h, ∃ f, h ∈ cls n nx tos g → Aut nx tos f ∧ f (g : Int) = (h : Int) := by
   intro h
   by_cases hh : h ∈ cls n nx tos g
   · obtain ⟨h1, h2⟩ := mem_cls.1 hh
     obtain ⟨f, f1, f2⟩ := iso hw hs hg h1 h2.symm
     exact ⟨f, fun _ => ⟨f1, f2⟩⟩
   · exact ⟨id, fun q => absurd q hh⟩
 obtain ⟨F, hF⟩ := Classical.axiomOfChoice img
 refine inj_le (cls n nx tos g) (cls n nx tos x) (fun h => (F h (x : Int)).toNat) (cls_nodup g) (fun h hh => ?_) (fun h hh k hk e => ?_)
 · obtain ⟨f1, f2⟩ := hF h hh
   have m := f1.map _ hxI
   have c := f1.code hw hxI
   rw [mem_cls]
   have e : (((F h (x : Int)).toNat : Nat) : Int) = F h (x : Int) := Int.toNat_of_nonneg m.1
   rw [e]
   exact ⟨by have := m.2; have := m.1; omega, c⟩
 · obtain ⟨f1, f2⟩ := hF h hh
   obtain ⟨k1, k2⟩ := hF k hk
   have m1 := f1.map _ hxI
   have m2 := k1.map _ hxI
   have e2 : F h (x : Int) = F k (x : Int) := by
     have := m1.1; have := m2.1
     omega
   have := f1.eq hw k1 hxI e2 _ hgI
   rw [f2, k2] at this
   omega
theorem filter_two {α : Type} (p : α → Bool) : ∀ l : List α, (l.filter p).length + (l.filter fun y => !p y).length = l.length
 | [] => rfl
 | a :: l => by
   have ih := filter_two p l
   cases h : p a
   · rw [List.filter_cons_of_neg (by rw [h]; decide), List.filter_cons_of_pos (by rw [h]; rfl)]; simp only [List.length_cons]; omega
   · rw [List.filter_cons_of_pos h, List.filter_cons_of_neg (by rw [h]; decide)]; simp only [List.length_cons]; omega
theorem parts_dvd {α β : Type} [DecidableEq β] (c : α → β) (k : Nat) : ∀ (N : Nat) (l : List α), l.length ≤ N → (∀ x ∈ l, (l.filter fun y => decide (c y = c x)).length = k) → k ∣ l.length
 | 0, l, hl, _ => by
   have : l.length = 0 := by omega
   rw [this]; exact Nat.dvd_zero k
 | N + 1, [], _, _ => Nat.dvd_zero k
 | N + 1, x :: t, hl, h => by
   have hx := h x (List.mem_cons_self ..)
   obtain ⟨l, hl2⟩ : ∃ l, l = x :: t := ⟨_, rfl⟩
   rw [← hl2] at hl h hx ⊢
   have hsum : (l.filter fun y => decide (c y = c x)).length + (l.filter fun y => !decide (c y = c x)).length = l.length := filter_two _ l
   have hpos : 0 < (l.filter fun y => decide (c y = c x)).length := List.length_pos_of_mem (List.mem_filter.2 ⟨by rw [hl2]; exact List.mem_cons_self .., by simp⟩)
   have ih := parts_dvd c k N (l.filter fun y => !decide (c y = c x)) (by omega) (fun y hy => by
     obtain ⟨y1, y2⟩ := List.mem_filter.1 hy
     rw [List.filter_filter, ← h y y1]
     congr 1
     refine List.filter_congr (fun z hz => ?_)
     by_cases q : c z = c y
     · have : c y ≠ c x := by simpa using y2
       simp [q, this]
     · simp [q])
   rw [← hsum, hx]
   exact Nat.dvd_add (Nat.dvd_refl k) ih
theorem cls_dvd (hw : Web n nx tos) (hs : Simple nx tos) {g : Nat} (hg : g < nx.length) : (cls n nx tos g).length ∣ nx.length := by
 have h := parts_dvd (fun y : Nat => (all n nx tos (y : Int)).cd) (cls n nx tos g).length nx.length (List.range nx.length) (by simp) (fun x hx => by
   have hx := List.mem_range.1 hx
   exact Nat.le_antisymm (cls_le hw hs hx hg) (cls_le hw hs hg hx))
 rw [List.length_range] at h
 exact h
end
end Go.Proofs.Yteeihjpnhjnknaa.Seen
namespace Go.Proofs.Yteeihjpnhjnknaa.Seen
open Go.RowKit Go.Proofs.YteeihjpnhjnknaaW.PrintWords Go.Proofs.Yteeihjpnhjnknaa.Mem
set_option linter.unusedVariables false
set_option linter.unusedSimpArgs false
section
variable {n : Nat} {nx tos : List Int}
theorem sub_le {α : Type} [DecidableEq α] : ∀ (l m : List α), l.Nodup → (∀ x ∈ l, x ∈ m) → l.length ≤ m.length
 | [], m, _, _ => Nat.zero_le _
 | a :: l, m, hn, hs => by
   rw [List.nodup_cons] at hn
   have ha : a ∈ m := hs a (List.mem_cons_self ..)
   have h := sub_le l (m.erase a) hn.2 (fun x hx => (List.mem_erase_of_ne (fun e => hn.1 (by rw [← e]; exact hx))).2 (hs x (List.mem_cons_of_mem _ hx)))
   rw [List.length_erase_of_mem ha] at h
   have := List.length_pos_of_mem ha
   simp; omega
end
end Go.Proofs.Yteeihjpnhjnknaa.Seen
namespace Go.Proofs.Yteeihjpnhjnknaa.Rot
open Go.RowKit Go.Proofs.YteeihjpnhjnknaaW.PrintWords Go.Proofs.Yteeihjpnhjnknaa.Mem Go.Proofs.Yteeihjpnhjnknaa.Seen
set_option linter.unusedVariables false
set_option linter.unusedSimpArgs false
def hits (C : Nat → List Int) (c : List Int) (j : Nat) : Nat := ((List.range j).filter fun h => decide (C h = c)).length
theorem hits_succ (C : Nat → List Int) (c : List Int) (j : Nat) : hits C c (j + 1) = hits C c j + if C j = c then 1 else 0 := by
 unfold hits
 rw [List.range_succ, List.filter_append, List.length_append]
 congr 1
 by_cases h : C j = c
 · rw [if_pos h]; simp [h]
 · rw [if_neg h]; simp [h]
theorem hits_none {C : Nat → List Int} {c : List Int} : ∀ j, (∀ h, h < j → C h ≠ c) → hits C c j = 0
 | 0, _ => rfl
 | j + 1, h => by rw [hits_succ, hits_none j (fun i hi => h i (by omega)), if_neg (h j (by omega))]
theorem bst_spec (C : Nat → List Int) : ∀ j, (∀ h, h ≤ j → ltB (C h) (C (bst C j).1) = false) ∧ (bst C j).2 = hits C (C (bst C j).1) (j + 1)
 | 0 => ⟨fun h hh => by obtain rfl : h = 0 := by omega
                        exact ltB_self _, by rw [hits_succ]; simp [bst, hits]⟩
 | j + 1 => by
   obtain ⟨a, b⟩ := bst_spec C j
   unfold bst
   by_cases q1 : ltB (C (j + 1)) (C (bst C j).1) = true
   · rw [if_pos q1]
     have key : ∀ h, h ≤ j → ltB (C h) (C (j + 1)) = false := fun h hh => by
       cases q : ltB (C h) (C (j + 1)) with
       | false => rfl
       | true => rw [← a h hh]; exact (ltB_trans _ _ _ q q1).symm
     refine ⟨fun h hh => ?_, ?_⟩
     · rcases Nat.lt_or_eq_of_le hh with w | rfl
       · exact key h (by omega)
       · exact ltB_self _
     · show 1 = hits C (C (j + 1)) (j + 1 + 1)
       rw [hits_succ, if_pos rfl, hits_none (j + 1) (fun h hh e => by
         have := a h (by omega)
         rw [e, q1] at this; cases this)]
   · rw [if_neg q1]
     by_cases q2 : ltB (C (bst C j).1) (C (j + 1)) = true
     · rw [if_pos q2]
       refine ⟨fun h hh => ?_, ?_⟩
       · rcases Nat.lt_or_eq_of_le hh with w | rfl
         · exact a h (by omega)
         · simpa using q1
       · rw [hits_succ, if_neg (fun e => by rw [e, ltB_self] at q2; cases q2), Nat.add_zero]; exact b
     · rw [if_neg q2]
       have e : C (j + 1) = C (bst C j).1 := ltB_eq _ _ (by simpa using q1) (by simpa using q2)
       refine ⟨fun h hh => ?_, ?_⟩
       · rcases Nat.lt_or_eq_of_le hh with w | rfl
         · exact a h (by omega)
         · simpa using q1
       · show (bst C j).2 + 1 = hits C (C (bst C j).1) (j + 1 + 1)
         rw [hits_succ, if_pos e, b]
section
variable {n : Nat} {l : List Ed} {r : List (List Int)}
theorem simple (h : IsMap n l r) : Simple (nxOf l r) (toOf l) := fun x y hx hy => half_one h.good (by rw [h.len] at hx; exact hx) (by rw [h.len] at hy; exact hy)
theorem turns_dvd (h : IsMap n l r) (hp : parts n l = 1) (h0 : 0 < l.length) : 0 < (bestOf n l r).2 ∧ (bestOf n l r).2 ∣ 2 * l.length ∧ (bestOf n l r).2 = hits (codes n l r) (codes n l r (bestOf n l r).1) (2 * l.length) ∧ ∀ x, x < 2 * l.length → ltB (codes n l r x) (codes n l r (bestOf n l r).1) = false := by
 obtain ⟨a, b⟩ := bst_spec (codes n l r) (2 * l.length - 1)
 have hb := (bst_le (codes n l r) (2 * l.length - 1)).1
 rw [show 2 * l.length - 1 + 1 = 2 * l.length by omega] at b
 have hd := cls_dvd (web h hp) (simple h) (g := (bestOf n l r).1) (by rw [h.len]; unfold bestOf; omega)
 have e : (cls n (nxOf l r) (toOf l) (bestOf n l r).1).length = (bestOf n l r).2 := by
   show ((List.range (nxOf l r).length).filter _).length = _
   rw [h.len]
   exact b.symm
 rw [e, h.len] at hd
 refine ⟨?_, hd, b, fun x hx => a x (by omega)⟩
 rcases Nat.eq_zero_or_pos (bestOf n l r).2 with z | z
 · rw [z] at hd
   have := Nat.eq_zero_of_zero_dvd hd
   omega
 · exact z
end
end Go.Proofs.Yteeihjpnhjnknaa.Rot
namespace Go.Proofs.Yteeihjpnhjnknaa.GAll
open Go.RowKit Go.Proofs.YteeihjpnhjnknaaW.PrintWords Go.Proofs.YteeihjpnhjnknaaW.PrintLast Go.Proofs.YteeihjpnhjnknaaW.PrintMore
attribute [local go_sem] max2_int min2_int max_two min_two max_three min_three max_four min_four   -- for this text's walks alone
set_option linter.unusedVariables false
set_option linter.unusedSimpArgs false
def canon_Match.out (n1 : Int) (x y : List Int) : Option (List Int × Bool × Int) :=
 if (decide (0 ≤ n1 ∧ n1 ≤ 1048576 ∧ x.length ≤ y.length ∧ x.length ≤ 1048576) && x.all fun v => decide (0 ≤ v ∧ v < n1)) = true then some (Match.putL x y n1.toNat x.length, true, 0) else none
def canon_Match.both (k : Nat) (n1 : Int) (a b : Int × List Int × List Int × Int × Int) : Option (List Int × Bool × Int) :=
 (canon_plane_best.f k a.1 a.2.1 a.2.2.1).bind fun x => (canon_plane_best.f k b.1 b.2.1 b.2.2.1).bind fun y => (canon_less_int.f k x.1 y.1).bind fun s1 =>
   if s1 = true then some ([], false, 0) else (canon_less_int.f k y.1 x.1).bind fun s2 => if s2 = true then some ([], false, 0) else canon_Match.out n1 x.2.1 y.2.1
def canon_Match.f (k : Nat) (a0_0 : Int) (l0_1 : List S89) (l1 : List (List Int)) (a2_0 : Int) (l2_1 : List S89) (l3 : List (List Int)) : Option (List Int × Bool × Int) :=
 (canon_look.f k a0_0 l0_1 l1).bind fun a => (canon_look.f k a2_0 l2_1 l3).bind fun b =>
   if a.2.2.2.1 = 1 ∨ b.2.2.2.1 = 1 then some ([], false, 1) else if Match.firstE [a.2.2.2.1, b.2.2.2.1, a.2.2.2.2, b.2.2.2.2] = 0 then canon_Match.both k a0_0 a b else some ([], false, Match.firstE [a.2.2.2.1, b.2.2.2.1, a.2.2.2.2, b.2.2.2.2])
theorem canon_Match.mono : ∀ a0 a1 a2 a3 a4 a5 k, LeO (canon_Match.f k a0 a1 a2 a3 a4 a5) (canon_Match.f (k + 1) a0 a1 a2 a3 a4 a5) := by
 intro a0 a1 a2 a3 a4 a5 k
 unfold canon_Match.f
 refine LeO.bind (canon_look.mono _ _ _ _) (fun a => LeO.bind (canon_look.mono _ _ _ _) (fun b => LeO.ite (LeO.refl _) (LeO.ite ?_ (LeO.refl _))))
 unfold canon_Match.both
 refine LeO.bind (canon_plane_best.mono _ _ _ _) (fun x => LeO.bind (canon_plane_best.mono _ _ _ _) (fun y => LeO.bind (canon_less_int.mono _ _ _) (fun s => LeO.ite (LeO.refl _) ?_)))
 exact LeO.bind (canon_less_int.mono _ _ _) (fun s => LeO.refl _)
theorem canon_Match.looks {k : Nat} {n : Int} {A : Option Addr} {c : Nat} {l : List S89} {A1 : Option Addr} {c1 : Nat} {r : List (List Int)} {p : Int} {nx tl : List Int} {e a : Int} {w : World} (hr : Kd.C k89 w A l.length l) (hc : l.length ≤ c) (hr1 : Kd.C (Kd.slice 3 (Kd.int .i64)) w A1 r.length r) (hc1 : r.length ≤ c1) (h : canon_look.f k n l r = some (p, nx, tl, e, a)) :
   Match.LookSays #[.int .i64 n, .slice A l.length c] (.slice A1 r.length c1) p nx tl e a w := fun W hW =>
 (canon_look.calls k n A c l A1 c1 r p nx tl e a W (Kd.C_below hr hW) hc (Kd.C_below hr1 hW) hc1 h).mono fun e' w' ⟨v1, v2, h1, h2, h3, h4⟩ => by
   obtain ⟨B1, d1, e1, hd1, hC1⟩ := Kd.R_reads h2
   obtain ⟨B2, d2, e2, hd2, hC2⟩ := Kd.R_reads h3
   exact ⟨v1, v2, h1, ⟨B1, d1, B2, d2, e1, hd1, hC1, e2, hd2, hC2⟩, h4⟩
theorem canon_Match.bests {k : Nat} {n : Int} {nx tl cd od : List Int} {m : Int} (h : canon_plane_best.f k n nx tl = some (cd, od, m)) : Match.BestSays n nx tl cd od m := fun W A1 c1 A2 c2 h1 h2 h3 h4 =>
 (canon_plane_best.calls k n A1 c1 nx A2 c2 tl cd od m W h1 h2 h3 h4 h).mono fun e' w' ⟨v1, v2, h1, h2, h3, h4⟩ => by
   obtain ⟨B1, d1, e1, hd1, hC1⟩ := Kd.R_reads h2
   obtain ⟨B2, d2, e2, hd2, hC2⟩ := Kd.R_reads h3
   exact ⟨v1, v2, h1, ⟨B1, d1, B2, d2, e1, hd1, hC1, e2, hd2, hC2⟩, h4⟩
theorem canon_Match.lesses {k : Nat} {a b : List Int} {r : Bool} (h : canon_less_int.f k a b = some r) : Match.LessSays a b r := fun W A c B d h1 h2 h3 h4 =>
 (canon_less_int.calls k A c a B d b r W h1 h2 h3 h4 h).mono fun e' w' ⟨h1, h2⟩ => ⟨h1, h2.below⟩
set_option maxHeartbeats 1000000 in
theorem canon_Match.calls (k : Nat) (a0_0 : Int) (A0_1 : Option Addr) (c0_1 : Nat) (l0_1 : List (S89)) (A1 : Option Addr) (c1 : Nat) (l1 : List (List Int)) (a2_0 : Int) (A2_1 : Option Addr) (c2_1 : Nat) (l2_1 : List (S89)) (A3 : Option Addr) (c3 : Nat) (l3 : List (List Int)) (r1 : List Int) (r2 : Bool) (r3 : Int) (w : World) (hr0_1 : Kd.C k89 w A0_1 l0_1.length l0_1) (hc0_1 : l0_1.length ≤ c0_1) (hr1 : Kd.C (Kd.slice 3 (Kd.int .i64)) w A1 l1.length l1) (hc1 : l1.length ≤ c1) (hr2_1 : Kd.C k89 w A2_1 l2_1.length l2_1) (hc2_1 : l2_1.length ≤ c2_1) (hr3 : Kd.C (Kd.slice 3 (Kd.int .i64)) w A3 l3.length l3) (hc3 : l3.length ≤ c3) (h : canon_Match.f k a0_0 l0_1 l1 a2_0 l2_1 l3 = some (r1, r2, r3)) :
   Calls Try.prog 20 #[.agg #[.int .i64 a0_0, .slice A0_1 l0_1.length c0_1], .slice A1 l1.length c1, .agg #[.int .i64 a2_0, .slice A2_1 l2_1.length c2_1], .slice A3 l3.length c3] w fun e w' => ∃ v0_ : Value, e = .returned (.tuple #[v0_, .bool r2, .int .i64 r3]) ∧ Kd.R (Kd.int .i64) 3 w' w.heap.size (fun _ => True) v0_ r1 ∧ Below w.heap.size w w' := by
 obtain ⟨⟨p1, nx1, tl1, e1, a1⟩, hl1, h⟩ := Option.bind_eq_some_iff.mp h
 obtain ⟨⟨p2, nx2, tl2, e2, a2⟩, hl2, h⟩ := Option.bind_eq_some_iff.mp h
 simp only at h
 have s1 := canon_Match.looks hr0_1 hc0_1 hr1 hc1 hl1
 have s2 := canon_Match.looks hr2_1 hc2_1 hr3 hc3 hl2
 by_cases c0 : e1 = 1 ∨ e2 = 1
 · rw [if_pos c0] at h
   have hres : (([] : List Int), false, (1 : Int)) = (r1, r2, r3) := by simpa using h
   exact Match.match_calls a0_0 A0_1 l0_1.length c0_1 (.slice A1 l1.length c1) a2_0 A2_1 l2_1.length c2_1 (.slice A3 l3.length c3) p1 nx1 tl1 e1 a1 p2 nx2 tl2 e2 a2 [] [] [] [] 0 0 false false w s1 s2 (r1, r2, r3) (fun _ => hres.symm) (fun q => absurd c0 q) (fun q => absurd c0 q)
 · rw [if_neg c0] at h
   by_cases cf : Match.firstE [e1, e2, a1, a2] = 0
   · rw [if_pos cf] at h
     obtain ⟨⟨cd1, od1, k1⟩, hb1, h⟩ := Option.bind_eq_some_iff.mp h
     obtain ⟨⟨cd2, od2, k2⟩, hb2, h⟩ := Option.bind_eq_some_iff.mp h
     obtain ⟨ls1, hx1, h⟩ := Option.bind_eq_some_iff.mp h
     simp only at hx1 h hb1 hb2
     have key := fun (ls2 : Bool) (q : ls1 = false → Match.LessSays cd2 cd1 ls2) => Match.match_calls a0_0 A0_1 l0_1.length c0_1 (.slice A1 l1.length c1) a2_0 A2_1 l2_1.length c2_1 (.slice A3 l3.length c3) p1 nx1 tl1 e1 a1 p2 nx2 tl2 e2 a2 cd1 od1 cd2 od2 k1 k2 ls1 ls2 w s1 s2 (r1, r2, r3) (fun q => absurd q c0) (fun _ q => absurd cf q)
     cases ls1 with
     | true =>
       rw [if_pos rfl] at h
       have hres : (([] : List Int), false, (0 : Int)) = (r1, r2, r3) := by simpa using h
       exact key false (fun q => by cases q) (fun _ _ => ⟨canon_Match.bests hb1, canon_Match.bests hb2, canon_Match.lesses hx1, (fun q => by cases q), fun _ => hres.symm, (fun q => by cases q), (fun q => by cases q)⟩)
     | false =>
       rw [if_neg (by decide)] at h
       obtain ⟨ls2, hx2, h⟩ := Option.bind_eq_some_iff.mp h
       cases ls2 with
       | true =>
         rw [if_pos rfl] at h
         have hres : (([] : List Int), false, (0 : Int)) = (r1, r2, r3) := by simpa using h
         exact key true (fun _ => canon_Match.lesses hx2) (fun _ _ => ⟨canon_Match.bests hb1, canon_Match.bests hb2, canon_Match.lesses hx1, fun _ => canon_Match.lesses hx2, (fun q => by cases q), fun _ _ => hres.symm, (fun _ q => by cases q)⟩)
       | false =>
         rw [if_neg (by decide)] at h
         unfold canon_Match.out at h
         by_cases ho : (decide (0 ≤ a0_0 ∧ a0_0 ≤ 1048576 ∧ od1.length ≤ od2.length ∧ od1.length ≤ 1048576) && od1.all fun v => decide (0 ≤ v ∧ v < a0_0)) = true
         · rw [if_pos ho] at h
           rw [Bool.and_eq_true, decide_eq_true_eq, List.all_eq_true] at ho
           obtain ⟨⟨g1, g2, g3, g4⟩, g5⟩ := ho
           have hres : (Match.putL od1 od2 a0_0.toNat od1.length, true, (0 : Int)) = (r1, r2, r3) := by simpa using h
           refine key false (fun _ => canon_Match.lesses hx2) (fun _ _ => ⟨canon_Match.bests hb1, canon_Match.bests hb2, canon_Match.lesses hx1, fun _ => canon_Match.lesses hx2, fun q => (by cases q), fun _ q => (by cases q), fun _ _ => ⟨a0_0.toNat, by omega, by omega, g3, g4, fun i hi => ?_, hres.symm⟩⟩)
           have hm : Mem.gi od1 i ∈ od1 := by
             unfold Mem.gi
             rw [List.getD_eq_getElem?_getD, List.getElem?_eq_getElem hi]
             exact List.getElem_mem hi
           have := of_decide_eq_true (g5 _ hm)
           omega
         · rw [if_neg ho] at h; cases h
   · rw [if_neg cf] at h
     have hres : (([] : List Int), false, Match.firstE [e1, e2, a1, a2]) = (r1, r2, r3) := by simpa using h
     exact Match.match_calls a0_0 A0_1 l0_1.length c0_1 (.slice A1 l1.length c1) a2_0 A2_1 l2_1.length c2_1 (.slice A3 l3.length c3) p1 nx1 tl1 e1 a1 p2 nx2 tl2 e2 a2 [] [] [] [] 0 0 false false w s1 s2 (r1, r2, r3) (fun q => absurd q c0) (fun _ _ => hres.symm) (fun _ q => absurd q cf)
end Go.Proofs.Yteeihjpnhjnknaa.GAll
namespace Go.Proofs.Yteeihjpnhjnknaa.GAll
open Go.RowKit Go.Proofs.YteeihjpnhjnknaaW.PrintWords Go.Proofs.YteeihjpnhjnknaaW.PrintLast Go.Proofs.YteeihjpnhjnknaaW.PrintMore
attribute [local go_sem] max2_int min2_int max_two min_two max_three min_three max_four min_four   -- for this text's walks alone
set_option linter.unusedVariables false
set_option linter.unusedSimpArgs false
def tangramref21_Match.out (n1 n2 : Int) (m n : List Int) : Option (List Int × Bool × Int) := if 0 ≤ n1 ∧ n1 ≤ 1048576 ∧ 0 ≤ n2 ∧ n2 ≤ 1048576 ∧ m.length = n1.toNat ∧ n.length = n2.toNat then some (One.putR m n n1.toNat n2.toNat n1.toNat, true, 0) else none
def tangramref21_Match.f (k : Nat) (a0_0 : Int) (l0_1 : List S89) (l1 : List (List Int)) (a2_0 : Int) (l2_1 : List S89) (l3 : List (List Int)) : Option (List Int × Bool × Int) :=
 (tangramref21_pairFault.f k a0_0 l0_1 l1 a2_0 l2_1 l3).bind fun e => if e = 0 then (tangramref21_Best.f k a0_0 l0_1 l1).bind fun a => (tangramref21_Best.f k a2_0 l2_1 l3).bind fun b => (tangramref03_SameInts.f k a.1 b.1).bind fun z =>
   if z = true then (tangramref21_Seen.f k a0_0 l0_1 l1 a.2.1).bind fun m => (tangramref21_Seen.f k a2_0 l2_1 l3 b.2.1).bind fun n => tangramref21_Match.out a0_0 a2_0 m.2 n.2 else some ([], false, 0) else some ([], false, e)
theorem tangramref21_Match.mono : ∀ a0 a1 a2 a3 a4 a5 k, LeO (tangramref21_Match.f k a0 a1 a2 a3 a4 a5) (tangramref21_Match.f (k + 1) a0 a1 a2 a3 a4 a5) := fun _ _ _ _ _ _ _ =>
 LeO.bind (tangramref21_pairFault.mono _ _ _ _ _ _ _) (fun _ => LeO.ite (LeO.bind (tangramref21_Best.mono _ _ _ _) (fun _ => LeO.bind (tangramref21_Best.mono _ _ _ _) (fun _ => LeO.bind (tangramref03_SameInts.mono _ _ _) (fun _ => LeO.ite (LeO.bind (tangramref21_Seen.mono _ _ _ _ _) (fun _ => LeO.bind (tangramref21_Seen.mono _ _ _ _ _) (fun _ => LeO.refl _))) (LeO.refl _))))) (LeO.refl _))
end Go.Proofs.Yteeihjpnhjnknaa.GAll
namespace Go.Proofs.Yteeihjpnhjnknaa.Rot
open Go.RowKit Go.Proofs.YteeihjpnhjnknaaW.PrintWords Go.Proofs.YteeihjpnhjnknaaW.PrintLast Go.Proofs.YteeihjpnhjnknaaW.PrintMore Go.Proofs.Yteeihjpnhjnknaa.GAll Go.Proofs.Yteeihjpnhjnknaa.Mem Go.Proofs.Yteeihjpnhjnknaa.Seen
set_option linter.unusedVariables false
set_option linter.unusedSimpArgs false
structure Sum (n : Int) (l : List Ed) (r : List (List Int)) (p : Int) (nx tl : List Int) (e a v : Int) : Prop where
 look : Ev (fun k => canon_look.f k n l r) (p, nx, tl, e, a)
 check : Ev (fun k => tangramref11_Check.f k n l r) (v, e)
 one : e = 1 ↔ ¬ PureV.Good n l
 fault : e = 0 → Ev (fun k => tangramref21_Fault.f k n l r) a
 fine : e = 0 → a = 0 → ∃ N : Nat, n = N ∧ p = N ∧ nx = nxOf l r ∧ tl = toOf l ∧ v = 0 ∧ IsMap N l r ∧ parts N l = 1 ∧ 0 < l.length
theorem sum (n : Int) (l : List Ed) (r : List (List Int)) (hs : Small r) : ∃ p nx tl e a v, Sum n l r p nx tl e a v := by
 cases case n l r hs with
 | bad v e h0 h1 hl hc hf => exact ⟨_, _, _, _, _, v, hl, hc, h1, fun q => absurd q h0, fun q => absurd q h0⟩
 | apart hg hl hc hf => exact ⟨_, _, _, _, _, _, hl, hc, ⟨fun q => absurd q (by decide), fun q => absurd hg q⟩, fun _ => hf, fun _ q => absurd q (by decide)⟩
 | fine N hN hm hp h0 hl hc hf => exact ⟨_, _, _, _, _, _, hl, hc, ⟨fun q => absurd q (by decide), fun q => absurd (by rw [hN]; exact hm.good) q⟩, fun _ => hf, fun _ _ => ⟨N, hN, hN, rfl, rfl, rfl, hm, hp, h0⟩⟩
section
variable {n1 : Int} {l1 : List Ed} {r1 : List (List Int)} {n2 : Int} {l2 : List Ed} {r2 : List (List Int)} {p1 : Int} {nx1 tl1 : List Int} {e1 a1 v1 p2 : Int} {nx2 tl2 : List Int} {e2 a2 v2 : Int}
def errOf (e1 e2 a1 a2 : Int) : Int := if e1 = 1 ∨ e2 = 1 then 1 else Match.firstE [e1, e2, a1, a2]
end
end Go.Proofs.Yteeihjpnhjnknaa.Rot
namespace Go.Proofs.Yteeihjpnhjnknaa.GAll
open Go.RowKit Go.Proofs.YteeihjpnhjnknaaW.PrintWords Go.Proofs.YteeihjpnhjnknaaW.PrintLast Go.Proofs.YteeihjpnhjnknaaW.PrintMore
attribute [local go_sem] max2_int min2_int max_two min_two max_three min_three max_four min_four   -- for this text's walks alone
set_option linter.unusedVariables false
set_option linter.unusedSimpArgs false
def slices_Reverse_int_int.l0 : Nat → List Int → Int → Int → Option (List Int)
 | 0, _, _, _ => none
 | k + 1, x0, x2, x3 => if x2 < x3 then (if 0 ≤ x3 then (if x3 < (x0.length : Int) then (if 0 ≤ x2 then (if x2 < (x0.length : Int) then (slices_Reverse_int_int.l0 k ((x0.set (x2 : Int).toNat (rd x0 x3)).set (x3 : Int).toNat (rd x0 x2)) (wrap64 (x2 + 1)) (wrap64 (x3 - 1))) else (none)) else (none)) else (none)) else (none)) else (some x0)
def slices_Reverse_int_int.f (k : Nat) (l0 : List Int) : Option (List Int) := slices_Reverse_int_int.l0 k l0 0 (wrap64 ((l0.length : Int) - 1))
theorem slices_Reverse_int_int.mono_l : ∀ k, (∀ y0 y1 y2, LeO (slices_Reverse_int_int.l0 k y0 y1 y2) (slices_Reverse_int_int.l0 (k + 1) y0 y1 y2))
 | 0 => fun _ _ _ r h => by simp [slices_Reverse_int_int.l0] at h
 | k + 1 => by
   have ih0 := slices_Reverse_int_int.mono_l k
   · intro y0 y1 y2
     unfold slices_Reverse_int_int.l0
     repeat' first
     | (with_reducible exact ih0 _ _ _)
     | (with_reducible exact LeO.refl _)
     | (with_reducible exact LeO.none _)
     | (with_reducible refine LeO.ite ?_ ?_)
     | (with_reducible refine LeO.bind ?_ (fun _ => ?_))
     | exact ih0 _ _ _
     | exact LeO.none _
     | refine LeO.ite ?_ ?_
     | refine LeO.bind ?_ (fun _ => ?_)
theorem slices_Reverse_int_int.mono : ∀ a0 k, LeO (slices_Reverse_int_int.f k a0) (slices_Reverse_int_int.f (k + 1) a0) := by
 intro a0 k
 have ih0 := slices_Reverse_int_int.mono_l k
 unfold slices_Reverse_int_int.f
 repeat' first
     | (with_reducible exact ih0 _ _ _)
     | (with_reducible exact LeO.refl _)
     | (with_reducible exact LeO.none _)
     | (with_reducible refine LeO.ite ?_ ?_)
     | (with_reducible refine LeO.bind ?_ (fun _ => ?_))
     | exact ih0 _ _ _
     | exact LeO.none _
     | refine LeO.ite ?_ ?_
     | refine LeO.bind ?_ (fun _ => ?_)
def slices_Reverse_int_int.T3 : Bool × List (List Nat × List Nat) := (true, [([], []), ([], []), ([], []), ([], []), ([], []), ([], []), ([4, 5], [4, 5]), ([6], [6]), ([], []), ([], []), ([8, 9], [8, 9]), ([10], [10]), ([0, 1, 0, 1, 4, 5, 6, 7, 11], [0, 1]), ([12, 7, 0, 1, 4, 5, 6, 7, 11], [7, 12]), ([2, 3, 0, 1, 2, 3, 4, 5, 6, 7, 8, 9, 10, 11, 12, 13], [2, 3]), ([14, 11, 13, 0, 1, 2, 3, 4, 5, 6, 7, 8, 9, 10, 11, 12, 13], [11, 14])])
def slices_Reverse_int_int.B3 : List Nat := [0, 0, 0, 0, 0, 0, 48, 112, 0, 0, 768, 1792, 4083, 8179, 16383, 32767]
theorem slices_Reverse_int_int.tab3 : rtab .any (opsOf Try.f54 3) = slices_Reverse_int_int.T3 := by kernel_rfl
theorem slices_Reverse_int_int.bits3 : waitsOk slices_Reverse_int_int.T3.2 slices_Reverse_int_int.B3 = true := by kernel_rfl
set_option maxHeartbeats 8000000 in
set_option maxRecDepth 100000 in
theorem slices_Reverse_int_int.calls (k : Nat) (P0_ : Nat → Prop) (u9000_ : Value) (l0 : List Int) (r : List Int) (w0 w : World) (hB : Below w0.heap.size w0 w) (ho0 : Kd.R (Kd.int .i64) 3 w w0.heap.size P0_ u9000_ l0) (h : slices_Reverse_int_int.f k l0 = some r) :
   Calls Try.prog 54 #[u9000_] w fun e w' => e = .returned (.tuple #[]) ∧ Kd.R (Kd.int .i64) 3 w' w0.heap.size (fun k_ => (P0_ k_ ∨ w.heap.size ≤ k_)) u9000_ r ∧ Below w0.heap.size w0 w' ∧ Kept w w' (fun k_ => P0_ k_) := by
 have HO0 := Aside0.mk (show Kd.R (Kd.int .i64) 3 w w0.heap.size (fun k_ => (P0_ k_ ∨ w.heap.size ≤ k_)) u9000_ l0 from Kd.R_mono ho0 (fun k_ hk => (.inl hk)))
 have HK := Aside0.mk (Kept.refl w (fun k_ => P0_ k_))
 have HW0 := Aside0.mk hB.size
 have HB := Aside0.mk hB
 clear hB
 have H : (slices_Reverse_int_int.l0 k l0 0 (wrap64 ((l0.length : Int) - 1))) = some r := h
 clear h
 have H' := Aside0.mk H
 clear H
 obtain ⟨Ao2, co2, eo2⟩ := Kd.R_slice HO0.out
 subst eo2
 go_enter Try.func54, Try.ntmps54
 go_wp2
 go_loopg [2, 3] k (fun kq v2 v3 w' => ∃ (x0_1 : List Int) (x2_1 : Int) (x3_1 : Int), v2 = .int .i64 x2_1 ∧ v3 = .int .i64 x3_1 ∧ Aside0 (slices_Reverse_int_int.l0 kq x0_1 x2_1 x3_1 = some r) ∧ Aside0 (kq ≤ k) ∧ Aside0 (Kd.R (Kd.int .i64) 3 w' w0.heap.size (fun k_ => (P0_ k_ ∨ w.heap.size ≤ k_)) (.slice Ao2 l0.length co2) x0_1) ∧ Aside0 (Kept w w' (fun k_ => P0_ k_)) ∧ Aside0 (Below w0.heap.size w0 w'))
 case atStart => exact ⟨(l0), (0), (wrap64 ((l0.length : Int) - 1)), (by first | rfl | (simp; done) | (simp [*]; done)), (by first | rfl | (simp; done) | (simp [*]; done)), H', ⟨Nat.le_refl _⟩, ⟨by (with_reducible repeat (first | apply Kd.R_alloc | apply Kd.R_drewN | apply Kd.R_drew)); exact HO0.out⟩, ⟨by repeat (first | (with_reducible first | exact HK.out | apply Kept.alloc | apply Kept.drewN | apply Kept.drew) | exact HK.out)⟩, ⟨by repeat (first | (with_reducible first | exact HB.out | apply below_alloc | apply pw_below_drewN | apply below_drew1) | exact HB.out)⟩⟩
 case round =>
   clear H'
   try clear p2
   obtain ⟨x0_1, x2_1, x3_1, rfl, rfl, HA, HK1, HO_0, HK, HB⟩ := hrel
   have hl0_1 := (Kd.R_reads' HO_0.out).1
   rw [hl0_1] at HO_0
   (try simp only [hl0_1])
   cases gk with
   | zero => exact absurd HA.out (by simp [slices_Reverse_int_int.l0])
   | succ k1 =>
     have H := HA.out
     clear HA
     simp only [slices_Reverse_int_int.l0] at H
     by_cases c3 : x2_1 < x3_1
     · rw [if_pos c3] at H
       have c3b0 : decide (x2_1 < x3_1) = true := decide_eq_true c3
       clear c3
       by_cases c4 : 0 ≤ x3_1
       · rw [if_pos c4] at H
         have c4b0 : decide (0 ≤ x3_1) = true := decide_eq_true c4
         clear c4
         by_cases c5 : x3_1 < (x0_1.length : Int)
         · rw [if_pos c5] at H
           have c5b0 : decide (x3_1 < (x0_1.length : Int)) = true := decide_eq_true c5
           clear c5
           by_cases c6 : 0 ≤ x2_1
           · rw [if_pos c6] at H
             have c6b0 : decide (0 ≤ x2_1) = true := decide_eq_true c6
             clear c6
             by_cases c7 : x2_1 < (x0_1.length : Int)
             · rw [if_pos c7] at H
               have c7b0 : decide (x2_1 < (x0_1.length : Int)) = true := decide_eq_true c7
               clear c7
               obtain ⟨y176, hy176⟩ : ∃ y_ : List Int, y_ = (x0_1.set (x2_1 : Int).toNat (rd x0_1 x3_1)) := ⟨_, rfl⟩
               replace H : (slices_Reverse_int_int.l0 k1 (y176.set (x3_1 : Int).toNat (rd x0_1 x2_1)) (wrap64 (x2_1 + 1)) (wrap64 (x3_1 - 1))) = some r := by first | (rw [hy176]; with_reducible exact H) | (have H2_ := (Option.bind_some _ _).symm.trans H; rw [hy176]; with_reducible exact H2_) | (have H2_ := (Option.bind_some _ _).symm.trans H; with_reducible exact H2_) | with_reducible exact H | (rw [hy176]; exact H) | exact H
               have Ny176 := Aside0.mk hy176
               clear hy176
               obtain ⟨y177, hy177⟩ : ∃ y_ : List Int, y_ = (y176.set (x3_1 : Int).toNat (rd x0_1 x2_1)) := ⟨_, rfl⟩
               replace H : (slices_Reverse_int_int.l0 k1 y177 (wrap64 (x2_1 + 1)) (wrap64 (x3_1 - 1))) = some r := by first | (rw [hy177]; with_reducible exact H) | (have H2_ := (Option.bind_some _ _).symm.trans H; rw [hy177]; with_reducible exact H2_) | (have H2_ := (Option.bind_some _ _).symm.trans H; with_reducible exact H2_) | with_reducible exact H | (rw [hy177]; exact H) | exact H
               have Ny177 := Aside0.mk hy177
               clear hy177
               have H' := Aside0.mk H
               clear H
               try go_wp2
               have n0_ := Aside0.mk (Kd.R_drew HO_0.out)
               have n1_ := Aside0.mk (Kept.drew HK.out)
               have n2_ := Aside0.mk (below_drew1 HB.out)
               clear HO_0
               clear HK
               clear HB
               have HO_0 := n0_
               have HK := n1_
               have HB := n2_
               clear n0_ n1_ n2_
               have p174 : 0 ≤ (x3_1 : Int) := of_decide_eq_true (by first | (with_reducible assumption) | assumption)
               have q174 : x3_1 < (x0_1.length : Int) := of_decide_eq_true (by first | (with_reducible assumption) | assumption)
               obtain ⟨ad174, e174, hx174_0⟩ := Kd.at_int (Kd.R_reads' HO_0.out).2.2 x3_1 p174 q174
               cases e174
               replace p174 := eq_true p174
               replace q174 := eq_true q174
               have p175 : 0 ≤ (x2_1 : Int) := of_decide_eq_true (by first | (with_reducible assumption) | assumption)
               have q175 : x2_1 < (x0_1.length : Int) := of_decide_eq_true (by first | (with_reducible assumption) | assumption)
               obtain ⟨ad175, e175, hx175_0⟩ := Kd.at_int (Kd.R_reads' HO_0.out).2.2 x2_1 p175 q175
               obtain rfl : ad174 = ad175 := (by injection e175)
               replace p175 := eq_true p175
               replace q175 := eq_true q175
               have p8 : 0 ≤ (x2_1 : Int) := of_decide_eq_true (by first | (with_reducible assumption) | assumption)
               have q8 : (x2_1 : Int) < ((x0_1.length : Int) : Int) := of_decide_eq_true (by first | (with_reducible assumption) | assumption)
               obtain ⟨go8, co8, eo8, gb8, gl8, cl8, HG8⟩ := Kd.R_form HO_0.out (by omega)
               (first | cases eo8 | (injection eo8 with ea_ en_ ec_; (first | subst ea_ | (injection ea_ with ea_; subst ea_)); subst ec_; clear en_))
               have GB8 := Aside0.mk gb8
               have GG8 := Aside0.mk HG8
               clear gb8 gl8 HG8
               have HMgo8 := Aside0.mk (show (P0_ go8 ∨ w.heap.size ≤ go8) from (HO_0.out.1 _ rfl))
               (first | simp only [add_plain] at hx174_0 | skip)
               (first | simp only [add_plain] at hx175_0 | skip)
               obtain ⟨hx8_0, hf8_0⟩ := Kd.R_celln 0 HO_0.out (x2_1 : Int) p8 q8
               replace p8 := eq_true p8
               replace q8 := eq_true q8
               have HP11 := Kd.R_putn HO_0.out (x2_1 : Int) (rd x0_1 x3_1)
               rw [← Ny176.out] at HP11
               have HQ11 := Aside0.mk HP11
               clear HP11
               have p9 : 0 ≤ (x3_1 : Int) := of_decide_eq_true (by first | (with_reducible assumption) | assumption)
               have q9 : (x3_1 : Int) < ((x0_1.length : Int) : Int) := of_decide_eq_true (by first | (with_reducible assumption) | assumption)
               obtain ⟨hx9_0, hf9_0⟩ := Kd.R_celln 0 HQ11.out (x3_1 : Int) p9 q9
               replace p9 := eq_true p9
               replace q9 := eq_true q9
               have HP12 := Kd.R_putn HQ11.out (x3_1 : Int) (rd x0_1 x2_1)
               rw [← Ny177.out] at HP12
               have HQ12 := Aside0.mk HP12
               clear HP12
               refine start_ (n := 16) (S := fun w' => w'.cell? ⟨go8, (x3_1).toNat, none⟩ = some (.int .i64 (rd x0_1 x3_1)) ∧ w'.cell? ⟨go8, (x2_1).toNat, none⟩ = some (.int .i64 (rd x0_1 x2_1))) (ds := [13, 15]) #[false, false, false, false, false, false, false, false, false, false, false, false, false, false, false, false] (by kernel_rfl) rfl rfl ⟨hx174_0, hx175_0⟩ (fun hHeld => ?_); refine with_tabW slices_Reverse_int_int.tab3 slices_Reverse_int_int.bits3 (fun HT_ HW_ => ?_)
               generalize wr.drew = w10 at HO_0 HK HB GG8 HQ11 HQ12 hf8_0 hf9_0 hx174_0 hx175_0 hx8_0 hx9_0 hHeld ⊢
               refine pure_ (i := 0) (N := some 14) (v := ?_) (a' := ?_) #[true, false, false, false, false, false, false, false, false, false, false, false, false, false, false, false] rfl rfl (any_of HT_.out (by kernel_rfl)) (fun _ _ _ h => h) (Or.inl ⟨by rfl, ?_⟩) ?_ ?_
               rotate_left
               · intro w'
                 go_simp
                 with_reducible rfl
               rotate_left
               · simp only [Act.put, List.setIfInBounds_toArray, List.set_cons_zero, List.set_cons_succ, i64_w, i32_w]
                 rfl
               refine pure_ (i := 1) (N := some 15) (v := ?_) (a' := ?_) #[true, true, false, false, false, false, false, false, false, false, false, false, false, false, false, false] rfl rfl (any_of HT_.out (by kernel_rfl)) (fun _ _ _ h => h) (Or.inl ⟨by rfl, ?_⟩) ?_ ?_
               rotate_left
               · intro w'
                 go_simp
                 with_reducible rfl
               rotate_left
               · simp only [Act.put, List.setIfInBounds_toArray, List.set_cons_zero, List.set_cons_succ, i64_w, i32_w]
                 rfl
               refine pure_ (i := 2) (N := some 16) (v := ?_) (a' := ?_) #[true, true, true, false, false, false, false, false, false, false, false, false, false, false, false, false] rfl rfl (any_of HT_.out (by kernel_rfl)) (fun _ _ _ h => h) (Or.inl ⟨by rfl, ?_⟩) ?_ ?_
               rotate_left
               · intro w'
                 go_simp
                 with_reducible rfl
               rotate_left
               · simp only [Act.put, List.setIfInBounds_toArray, List.set_cons_zero, List.set_cons_succ, i64_w, i32_w]
                 rfl
               refine pure_ (i := 3) (N := some 17) (v := ?_) (a' := ?_) #[true, true, true, true, false, false, false, false, false, false, false, false, false, false, false, false] rfl rfl (any_of HT_.out (by kernel_rfl)) (fun _ _ _ h => h) (Or.inl ⟨by rfl, ?_⟩) ?_ ?_
               rotate_left
               · intro w'
                 go_simp
                 with_reducible rfl
               rotate_left
               · simp only [Act.put, List.setIfInBounds_toArray, List.set_cons_zero, List.set_cons_succ, i64_w, i32_w]
                 rfl
               refine pure_ (i := 4) (N := some 18) (v := ?_) (a' := ?_) #[true, true, true, true, true, false, false, false, false, false, false, false, false, false, false, false] rfl rfl (any_of HT_.out (by kernel_rfl)) (fun _ _ _ h => h) (Or.inl ⟨by rfl, ?_⟩) ?_ ?_
               rotate_left
               · intro w'
                 go_simp
                 with_reducible rfl
               rotate_left
               · simp only [Act.put, List.setIfInBounds_toArray, List.set_cons_zero, List.set_cons_succ, i64_w, i32_w]
                 rfl
               refine pure_ (i := 5) (N := some 19) (v := ?_) (a' := ?_) #[true, true, true, true, true, true, false, false, false, false, false, false, false, false, false, false] rfl rfl (any_of HT_.out (by kernel_rfl)) (fun _ _ _ h => h) (Or.inl ⟨by rfl, ?_⟩) ?_ ?_
               rotate_left
               · intro w'
                 go_simp
                 with_reducible rfl
               rotate_left
               · simp only [Act.put, List.setIfInBounds_toArray, List.set_cons_zero, List.set_cons_succ, i64_w, i32_w]
                 rfl
               refine pure_ (i := 6) (N := some 20) (v := ?_) (a' := ?_) #[true, true, true, true, true, true, true, false, false, false, false, false, false, false, false, false] rfl rfl (any_of HT_.out (by kernel_rfl)) (fun _ _ _ h => h) (Or.inl ⟨by rfl, ?_⟩) ?_ ?_
               rotate_left
               · intro w'
                 go_simp
                 with_reducible rfl
               rotate_left
               · simp only [Act.put, List.setIfInBounds_toArray, List.set_cons_zero, List.set_cons_succ, i64_w, i32_w]
                 rfl
               refine pure_ (i := 8) (N := some 22) (v := ?_) (a' := ?_) #[true, true, true, true, true, true, true, false, true, false, false, false, false, false, false, false] rfl rfl (any_of HT_.out (by kernel_rfl)) (fun _ _ _ h => h) (Or.inl ⟨by rfl, ?_⟩) ?_ ?_
               rotate_left
               · intro w'
                 go_simp
                 with_reducible rfl
               rotate_left
               · simp only [Act.put, List.setIfInBounds_toArray, List.set_cons_zero, List.set_cons_succ, i64_w, i32_w]
                 rfl
               refine pure_ (i := 9) (N := some 23) (v := ?_) (a' := ?_) #[true, true, true, true, true, true, true, false, true, true, false, false, false, false, false, false] rfl rfl (any_of HT_.out (by kernel_rfl)) (fun _ _ _ h => h) (Or.inl ⟨by rfl, ?_⟩) ?_ ?_
               rotate_left
               · intro w'
                 go_simp
                 with_reducible rfl
               rotate_left
               · simp only [Act.put, List.setIfInBounds_toArray, List.set_cons_zero, List.set_cons_succ, i64_w, i32_w]
                 rfl
               refine pure_ (i := 10) (N := some 24) (v := ?_) (a' := ?_) #[true, true, true, true, true, true, true, false, true, true, true, false, false, false, false, false] rfl rfl (any_of HT_.out (by kernel_rfl)) (fun _ _ _ h => h) (Or.inl ⟨by rfl, ?_⟩) ?_ ?_
               rotate_left
               · intro w'
                 go_simp
                 with_reducible rfl
               rotate_left
               · simp only [Act.put, List.setIfInBounds_toArray, List.set_cons_zero, List.set_cons_succ, i64_w, i32_w]
                 rfl
               refine take_ (i := 7) (N := some 21) (v := ?_) (a' := ?_) #[true, true, true, true, true, true, true, true, true, true, true, false, false, false, false, false] rfl rfl (take_ofW HT_.out HW_.out (by kernel_rfl)) (fun _ _ _ h => h) (Or.inl ⟨by rfl, ?_⟩) hHeld ?_ ?_
               rotate_left
               · rintro w' ⟨s0, s1⟩
                 go_simp
                 with_reducible rfl
               rotate_left
               · simp only [Act.put, List.setIfInBounds_toArray, List.set_cons_zero, List.set_cons_succ, i64_w, i32_w]
                 rfl
               refine take_ (i := 11) (N := some 25) (v := ?_) (a' := ?_) #[true, true, true, true, true, true, true, true, true, true, true, true, false, false, false, false] rfl rfl (take_ofW HT_.out HW_.out (by kernel_rfl)) (fun _ _ _ h => h) (Or.inl ⟨by rfl, ?_⟩) hHeld ?_ ?_
               rotate_left
               · rintro w' ⟨s0, s1⟩
                 go_simp
                 with_reducible rfl
               rotate_left
               · simp only [Act.put, List.setIfInBounds_toArray, List.set_cons_zero, List.set_cons_succ, i64_w, i32_w]
                 rfl
               refine pure_ (i := 12) (N := some 26) (v := ?_) (a' := ?_) #[true, true, true, true, true, true, true, true, true, true, true, true, true, false, false, false] rfl rfl (any_of HT_.out (by kernel_rfl)) (fun _ _ _ h => h) (Or.inl ⟨by rfl, ?_⟩) ?_ ?_
               rotate_left
               · intro w'
                 go_simp
                 with_reducible rfl
               rotate_left
               · simp only [Act.put, List.setIfInBounds_toArray, List.set_cons_zero, List.set_cons_succ, i64_w, i32_w]
                 rfl
               refine last_ (i := 13) (N := none) #[true, true, true, true, true, true, true, true, true, true, true, true, true, true, false, false] rfl rfl (one_of HT_.out (by kernel_rfl)) (by decide) (fun K hK => ?_)
               refine skip_ (w1 := ?_) (by rfl) rfl ?_ ?_
               rotate_left
               · go_simp
                 rfl
               refine hK.out _ _ ?_
               clear hK K
               refine pure_ (i := 14) (N := some 27) (v := ?_) (a' := ?_) #[true, true, true, true, true, true, true, true, true, true, true, true, true, true, true, false] rfl rfl (any_of HT_.out (by kernel_rfl)) (fun _ _ _ h => h) (Or.inl ⟨by rfl, ?_⟩) ?_ ?_
               rotate_left
               · intro w'
                 go_simp
                 with_reducible rfl
               rotate_left
               · simp only [Act.put, List.setIfInBounds_toArray, List.set_cons_zero, List.set_cons_succ, i64_w, i32_w]
                 rfl
               refine last_ (i := 15) (N := none) #[true, true, true, true, true, true, true, true, true, true, true, true, true, true, true, true] rfl rfl (one_of HT_.out (by kernel_rfl)) (by decide) (fun K hK => ?_)
               refine skip_ (w1 := ?_) (by rfl) rfl ?_ ?_
               rotate_left
               · go_simp
                 rfl
               refine hK.out _ _ ?_
               clear hK K
               refine done_ (done_of HT_.out (by kernel_rfl)) ?_
               try go_wp2
               (try simp only [← hl0_1])
               go_roundg k1
               case measure => have := HK1.out; omega
               case rel => exact ⟨(y177), (wrap64 (x2_1 + 1)), (wrap64 (x3_1 - 1)), (by first | rfl | (simp; done) | (simp [*]; done)), (by first | rfl | (simp; done) | (simp [*]; done)), H', ⟨by have := HK1.out; omega⟩, ⟨by (try simp only [hl0_1]); (with_reducible repeat (first | apply Kd.R_alloc | apply Kd.R_drewN | apply Kd.R_drew)); exact HQ12.out⟩, ⟨by repeat (first | (with_reducible first | exact HK.out | apply Kept.alloc | apply Kept.drewN | apply Kept.drew | refine Kept.setCell ?_ HMgo8.out _ | refine Kept.setCell ?_ HMgo8.out _) | exact HK.out)⟩, ⟨by repeat (first | (with_reducible first | exact HB.out | apply below_alloc | apply pw_below_drewN | apply below_drew1 | refine below_set ?_ GB8.out | refine below_set ?_ GB8.out) | exact HB.out)⟩⟩
             · rw [if_neg c7] at H
               exact absurd H (by simp)
           · rw [if_neg c6] at H
             exact absurd H (by simp)
         · rw [if_neg c5] at H
           exact absurd H (by simp)
       · rw [if_neg c4] at H
         exact absurd H (by simp)
     · rw [if_neg c3] at H
       have c3b0 : decide (x2_1 < x3_1) = false := decide_eq_false c3
       clear c3
       obtain rfl := Option.some.inj H
       go_wp2
       first | go_end0 | ((try simp only [Exit.inBlock, Exit.then]); refine bodyPost_ret (results_none rfl _ _ _) rfl ?_)
       exact ⟨by first | rfl | (simp [errW_none, errW_some] <;> rfl) | (simp [*, errW_none, errW_some] <;> rfl), (by first | exact (by (with_reducible repeat (first | apply Kd.R_alloc | apply Kd.R_drewN | apply Kd.R_drew)); exact HO_0.out) | (simp only [hl0_1]; exact (by (with_reducible repeat (first | apply Kd.R_alloc | apply Kd.R_drewN | apply Kd.R_drew)); exact HO_0.out))), by repeat (first | (with_reducible first | exact HB.out | apply below_alloc | apply pw_below_drewN | apply below_drew1) | exact HB.out), by repeat (first | (with_reducible first | exact HK.out | apply Kept.alloc | apply Kept.drewN | apply Kept.drew) | exact HK.out)⟩
end Go.Proofs.Yteeihjpnhjnknaa.GAll
namespace Go.Proofs.Yteeihjpnhjnknaa.GAll
open Go.RowKit Go.Proofs.YteeihjpnhjnknaaW.PrintWords Go.Proofs.YteeihjpnhjnknaaW.PrintLast Go.Proofs.YteeihjpnhjnknaaW.PrintMore
attribute [local go_sem] max2_int min2_int max_two min_two max_three min_three max_four min_four   -- for this text's walks alone
set_option linter.unusedVariables false
set_option linter.unusedSimpArgs false
def rot_least.l0 : Nat → List Int → Int → List Int → Int → Int → Option (Int)
 | 0, _, _, _, _, _ => none
 | k + 1, x0, x3, x6, x7, x8 => if x8 < x7 then (if 0 ≤ x8 then (if x8 < (x6.length : Int) then (if 0 ≤ x3 then (if x3 < (x0.length : Int) then (if (rd x6 x8) < (rd x0 x3) then (rot_least.l0 k x0 x8 x6 x7 (wrap64 (x8 + 1))) else (rot_least.l0 k x0 x3 x6 x7 (wrap64 (x8 + 1)))) else (none)) else (none)) else (none)) else (none)) else (some x3)
def rot_least.f (k : Nat) (l0 : List Int) : Option (Int) := rot_least.l0 k l0 0 l0 (l0.length : Int) 0
theorem rot_least.mono_l : ∀ k, (∀ y0 y1 y2 y3 y4, LeO (rot_least.l0 k y0 y1 y2 y3 y4) (rot_least.l0 (k + 1) y0 y1 y2 y3 y4))
 | 0 => fun _ _ _ _ _ r h => by simp [rot_least.l0] at h
 | k + 1 => by
   have ih0 := rot_least.mono_l k
   · intro y0 y1 y2 y3 y4
     unfold rot_least.l0
     repeat' first
     | (with_reducible exact ih0 _ _ _ _ _)
     | (with_reducible exact LeO.refl _)
     | (with_reducible exact LeO.none _)
     | (with_reducible refine LeO.ite ?_ ?_)
     | (with_reducible refine LeO.bind ?_ (fun _ => ?_))
     | exact ih0 _ _ _ _ _
     | exact LeO.none _
     | refine LeO.ite ?_ ?_
     | refine LeO.bind ?_ (fun _ => ?_)
theorem rot_least.mono : ∀ a0 k, LeO (rot_least.f k a0) (rot_least.f (k + 1) a0) := by
 intro a0 k
 have ih0 := rot_least.mono_l k
 unfold rot_least.f
 repeat' first
     | (with_reducible exact ih0 _ _ _ _ _)
     | (with_reducible exact LeO.refl _)
     | (with_reducible exact LeO.none _)
     | (with_reducible refine LeO.ite ?_ ?_)
     | (with_reducible refine LeO.bind ?_ (fun _ => ?_))
     | exact ih0 _ _ _ _ _
     | exact LeO.none _
     | refine LeO.ite ?_ ?_
     | refine LeO.bind ?_ (fun _ => ?_)
set_option maxHeartbeats 8000000 in
set_option maxRecDepth 100000 in
theorem rot_least.calls (k : Nat) (A0 : Option Addr) (c0 : Nat) (l0 : List Int) (r : Int) (w : World) (hr0 : Kd.C (Kd.int .i64) w A0 l0.length l0) (hc0 : l0.length ≤ c0) (h : rot_least.f k l0 = some r) :
   Calls Try.prog 69 #[.slice A0 l0.length c0] w fun e w' => e = .returned (.int .i64 r) ∧ Drawn0 w w' := by
 have HR0 := Aside0.mk hr0
 have HC0 := Aside0.mk hc0
 clear hr0 hc0
 have H : (rot_least.l0 k l0 0 l0 (l0.length : Int) 0) = some r := h
 clear h
 have H' := Aside0.mk H
 clear H
 go_enter Try.func69, Try.ntmps69
 go_wp2
 go_loopg [3, 8] k (fun kq v3 v8 w' => ∃ (x3_1 : Int) (x8_1 : Int), v3 = .int .i64 x3_1 ∧ v8 = .int .i64 x8_1 ∧ Aside0 (rot_least.l0 kq l0 x3_1 l0 (l0.length : Int) x8_1 = some r) ∧ Aside0 (kq ≤ k) ∧ Drawn0 w w')
 case atStart => exact ⟨(0), (0), (by first | rfl | (simp; done) | (simp [*]; done)), (by first | rfl | (simp; done) | (simp [*]; done)), H', ⟨Nat.le_refl _⟩, by repeat (first | exact Drawn0.refl _ | apply Drawn0.step)⟩
 case round =>
   clear H'
   obtain ⟨x3_1, x8_1, rfl, rfl, HA, HK1, ⟨m1, rfl⟩⟩ := hrel
   cases gk with
   | zero => exact absurd HA.out (by simp [rot_least.l0])
   | succ k1 =>
     have H := HA.out
     clear HA
     simp only [rot_least.l0] at H
     by_cases c2 : x8_1 < (l0.length : Int)
     · rw [if_pos c2] at H
       have c2b0 : decide (x8_1 < (l0.length : Int)) = true := decide_eq_true c2
       clear c2
       by_cases c3 : 0 ≤ x8_1
       · rw [if_pos c3] at H
         have c3b0 : decide (0 ≤ x8_1) = true := decide_eq_true c3
         clear c3
         by_cases c4 : x8_1 < (l0.length : Int)
         · rw [if_pos c4] at H
           have c4b0 : decide (x8_1 < (l0.length : Int)) = true := decide_eq_true c4
           clear c4
           by_cases c5 : 0 ≤ x3_1
           · rw [if_pos c5] at H
             have c5b0 : decide (0 ≤ x3_1) = true := decide_eq_true c5
             clear c5
             by_cases c6 : x3_1 < (l0.length : Int)
             · rw [if_pos c6] at H
               have c6b0 : decide (x3_1 < (l0.length : Int)) = true := decide_eq_true c6
               clear c6
               by_cases c7 : (rd l0 x8_1) < (rd l0 x3_1)
               · rw [if_pos c7] at H
                 have c7b0 : decide ((rd l0 x8_1) < (rd l0 x3_1)) = true := decide_eq_true c7
                 clear c7
                 have H' := Aside0.mk H
                 clear H
                 have p178 : 0 ≤ (x8_1 : Int) := of_decide_eq_true (by first | (with_reducible assumption) | assumption)
                 have q178 : x8_1 < (l0.length : Int) := of_decide_eq_true (by first | (with_reducible assumption) | assumption)
                 obtain ⟨ad178, e178, hx178_0⟩ := Kd.at_int HR0.out x8_1 p178 q178
                 cases e178
                 replace p178 := eq_true p178
                 replace q178 := eq_true q178
                 have p179 : 0 ≤ (x3_1 : Int) := of_decide_eq_true (by first | (with_reducible assumption) | assumption)
                 have q179 : x3_1 < (l0.length : Int) := of_decide_eq_true (by first | (with_reducible assumption) | assumption)
                 obtain ⟨ad179, e179, hx179_0⟩ := Kd.at_int HR0.out x3_1 p179 q179
                 obtain rfl : ad178 = ad179 := (by injection e179)
                 replace p179 := eq_true p179
                 replace q179 := eq_true q179
                 go_wp2
                 go_roundg k1
                 case measure => have := HK1.out; omega
                 case rel => exact ⟨(x8_1), (wrap64 (x8_1 + 1)), (by first | rfl | (simp; done) | (simp [*]; done)), (by first | rfl | (simp; done) | (simp [*]; done)), H', ⟨by have := HK1.out; omega⟩, by repeat (first | exact Drawn0.refl _ | apply Drawn0.step)⟩
               · rw [if_neg c7] at H
                 have c7b0 : decide ((rd l0 x8_1) < (rd l0 x3_1)) = false := decide_eq_false c7
                 clear c7
                 have H' := Aside0.mk H
                 clear H
                 have p178 : 0 ≤ (x8_1 : Int) := of_decide_eq_true (by first | (with_reducible assumption) | assumption)
                 have q178 : x8_1 < (l0.length : Int) := of_decide_eq_true (by first | (with_reducible assumption) | assumption)
                 obtain ⟨ad178, e178, hx178_0⟩ := Kd.at_int HR0.out x8_1 p178 q178
                 cases e178
                 replace p178 := eq_true p178
                 replace q178 := eq_true q178
                 have p179 : 0 ≤ (x3_1 : Int) := of_decide_eq_true (by first | (with_reducible assumption) | assumption)
                 have q179 : x3_1 < (l0.length : Int) := of_decide_eq_true (by first | (with_reducible assumption) | assumption)
                 obtain ⟨ad179, e179, hx179_0⟩ := Kd.at_int HR0.out x3_1 p179 q179
                 obtain rfl : ad178 = ad179 := (by injection e179)
                 replace p179 := eq_true p179
                 replace q179 := eq_true q179
                 go_wp2
                 go_roundg k1
                 case measure => have := HK1.out; omega
                 case rel => exact ⟨(x3_1), (wrap64 (x8_1 + 1)), (by first | rfl | (simp; done) | (simp [*]; done)), (by first | rfl | (simp; done) | (simp [*]; done)), H', ⟨by have := HK1.out; omega⟩, by repeat (first | exact Drawn0.refl _ | apply Drawn0.step)⟩
             · rw [if_neg c6] at H
               exact absurd H (by simp)
           · rw [if_neg c5] at H
             exact absurd H (by simp)
         · rw [if_neg c4] at H
           exact absurd H (by simp)
       · rw [if_neg c3] at H
         exact absurd H (by simp)
     · rw [if_neg c2] at H
       have c2b0 : decide (x8_1 < (l0.length : Int)) = false := decide_eq_false c2
       clear c2
       obtain rfl := Option.some.inj H
       go_wp2
       go_ret
       exact ⟨by first | rfl | (simp; done) | (simp [*]; done), by repeat (first | exact Drawn0.refl _ | apply Drawn0.step)⟩
end Go.Proofs.Yteeihjpnhjnknaa.GAll
namespace Go.Proofs.Yteeihjpnhjnknaa.GAll
open Go.RowKit Go.Proofs.YteeihjpnhjnknaaW.PrintWords Go.Proofs.YteeihjpnhjnknaaW.PrintLast Go.Proofs.YteeihjpnhjnknaaW.PrintMore
attribute [local go_sem] max2_int min2_int max_two min_two max_three min_three max_four min_four   -- for this text's walks alone
set_option linter.unusedVariables false
set_option linter.unusedSimpArgs false
def rot_Mirror.fit (k : Nat) (l0 : List (List Int)) : Bool := decide (l0.length * 24 ≤ 140737488355328) && l0.all fun l => (rot_least.f k l.reverse == some ((Rot.leastAt l.reverse : Nat) : Int)) && ((slices_Reverse_int_int.f k l == some l.reverse) && decide (l.length * 8 ≤ 140737488355328))
def rot_Mirror.f (k : Nat) (l0 : List (List Int)) : Option (List (List Int)) := if rot_Mirror.fit k l0 = true then some ((l0.map List.reverse).map Rot.turnl) else none
theorem rot_Mirror.fit_mono {k : Nat} {l0 : List (List Int)} (h : rot_Mirror.fit k l0 = true) : rot_Mirror.fit (k + 1) l0 = true := by
 unfold rot_Mirror.fit at h ⊢
 rw [Bool.and_eq_true, List.all_eq_true] at h ⊢
 refine ⟨h.1, fun l hl => ?_⟩
 have := h.2 l hl
 rw [Bool.and_eq_true, Bool.and_eq_true, beq_iff_eq, beq_iff_eq] at this ⊢
 exact ⟨rot_least.mono _ k _ this.1, slices_Reverse_int_int.mono _ k _ this.2.1, this.2.2⟩
theorem rot_Mirror.mono : ∀ a0 k, LeO (rot_Mirror.f k a0) (rot_Mirror.f (k + 1) a0) := by
 intro a0 k r h
 unfold rot_Mirror.f at h ⊢
 by_cases hf : rot_Mirror.fit k a0 = true
 · rw [if_pos hf] at h
   rw [if_pos (rot_Mirror.fit_mono hf)]
   exact h
 · rw [if_neg hf] at h; cases h
theorem rot_Mirror.at_ {k : Nat} {l0 : List (List Int)} (h : rot_Mirror.fit k l0 = true) : l0.length * 24 ≤ 140737488355328 ∧ ∀ j, j < l0.length → rot_least.f k (Mem.gl l0 j).reverse = some ((Rot.leastAt (Mem.gl l0 j).reverse : Nat) : Int) ∧ slices_Reverse_int_int.f k (Mem.gl l0 j) = some (Mem.gl l0 j).reverse ∧ (Mem.gl l0 j).length * 8 ≤ 140737488355328 := by
 unfold rot_Mirror.fit at h
 rw [Bool.and_eq_true, List.all_eq_true, decide_eq_true_eq] at h
 refine ⟨h.1, fun j hj => ?_⟩
 have hm : Mem.gl l0 j ∈ l0 := by
   unfold Mem.gl
   rw [List.getD_eq_getElem?_getD, List.getElem?_eq_getElem hj]
   exact List.getElem_mem hj
 have := h.2 _ hm
 rw [Bool.and_eq_true, Bool.and_eq_true, beq_iff_eq, beq_iff_eq, decide_eq_true_eq] at this
 exact this
theorem rot_Mirror.least {k : Nat} {l0 : List (List Int)} (h : rot_Mirror.fit k l0 = true) : Rot.LeastSays (l0.map List.reverse) := by
 intro j A c W hj hC hc
 rw [List.length_map] at hj
 have e : Mem.gl (l0.map List.reverse) j = (Mem.gl l0 j).reverse := by unfold Mem.gl; simp [List.getD_eq_getElem?_getD, hj]
 rw [e] at hC hc ⊢
 exact (rot_least.calls k A c _ _ W hC hc ((rot_Mirror.at_ h).2 j hj).1).mono fun e w' ⟨h1, h2⟩ => ⟨h1, h2.below⟩
theorem rot_Mirror.rev {k : Nat} {l0 : List (List Int)} (h : rot_Mirror.fit k l0 = true) : Rot.ReverseSays l0 := by
 intro j v W0 W hj hB hR
 refine (slices_Reverse_int_int.calls k (fun q => v.ownBlock = some q) v (Mem.gl l0 j) (Mem.gl l0 j).reverse W0 W hB hR ((rot_Mirror.at_ h).2 j hj).2.1).mono fun e w' ⟨h1, h2, h3, h4⟩ => ⟨h1, ?_, h4.1, fun b hb hn => h4.2 b hb hn, h3⟩
 have := Kd.own_of_R h2
 rw [List.length_reverse] at this
 exact this
theorem rot_Mirror.calls (k : Nat) (A0 : Option Addr) (c0 : Nat) (l0 : List (List Int)) (r : List (List Int)) (w : World) (hr0 : Kd.C (Kd.slice 3 (Kd.int .i64)) w A0 l0.length l0) (hc0 : l0.length ≤ c0) (h : rot_Mirror.f k l0 = some r) :
   Calls Try.prog 33 #[.slice A0 l0.length c0] w fun e w' => ∃ v0_ : Value, e = .returned (v0_) ∧ Kd.S (Kd.slice 3 (Kd.int .i64)) 32 w' w.heap.size (fun _ => True) v0_ r ∧ Below w.heap.size w w' := by
 unfold rot_Mirror.f at h
 by_cases hf : rot_Mirror.fit k l0 = true
 · rw [if_pos hf] at h
   obtain rfl : (l0.map List.reverse).map Rot.turnl = r := by simpa using h
   obtain ⟨h1, h2⟩ := rot_Mirror.at_ hf
   exact Rot.mirror_calls A0 c0 l0 w hr0 h1 (fun j hj => (h2 j hj).2.2) (rot_Mirror.rev hf) (rot_Mirror.least hf)
 · rw [if_neg hf] at h; cases h
end Go.Proofs.Yteeihjpnhjnknaa.GAll
namespace Go.Proofs.Yteeihjpnhjnknaa.Rot
open Go.RowKit Go.Proofs.YteeihjpnhjnknaaW.PrintWords Go.Proofs.YteeihjpnhjnknaaW.PrintLast Go.Proofs.YteeihjpnhjnknaaW.PrintMore Go.Proofs.Yteeihjpnhjnknaa.GAll Go.Proofs.Yteeihjpnhjnknaa.Mem
set_option linter.unusedVariables false
set_option linter.unusedSimpArgs false
theorem gl_get {r : List (List Int)} {i : Nat} (h : i < r.length) : gl r i = r[i] := by unfold gl; rw [List.getD_eq_getElem?_getD, List.getElem?_eq_getElem h]; rfl
theorem gi_ext {a b : List Int} (hl : a.length = b.length) (h : ∀ p, p < a.length → gi a p = gi b p) : a = b := by
 refine List.ext_getElem hl fun p h1 h2 => ?_
 rw [← gi_get h1, ← gi_get h2]
 exact h p h1
theorem least_ev {l : List Int} (hl : l.length * 8 ≤ 140737488355328) : Ev (fun k => rot_least.f k l) ((leastAt l : Nat) : Int) := by
 have loop : ∀ (d i : Nat), i + d = l.length → Ev (fun k => rot_least.l0 k l ((leastTo l i : Nat) : Int) l (l.length : Int) (i : Int)) ((leastAt l : Nat) : Int) := by
   intro d
   induction d with
   | zero =>
     intro i hi
     obtain rfl : i = l.length := by omega
     refine Ev.step (f := fun _ => some ((leastAt l : Nat) : Int)) (fun k => ?_) (Ev.now _)
     simp only [rot_least.l0]
     rw [if_neg (by omega)]
     rfl
   | succ d ih =>
     intro i hi
     have h1 := leastTo_le l i
     refine Ev.step (fun k => ?_) (ih (i + 1) (by omega))
     simp only [rot_least.l0]
     rw [if_pos (by omega), if_pos (by omega), if_pos (by omega), if_pos (by omega), if_pos (by omega), gi_rd, gi_rd, w1 (by omega)]
     show _ = rot_least.l0 k l ((if gi l i < gi l (leastTo l i) then i else leastTo l i : Nat) : Int) l (l.length : Int) _
     by_cases c : gi l i < gi l (leastTo l i)
     · rw [if_pos c, if_pos c]
     · rw [if_neg c, if_neg c]
 exact loop l.length 0 (by omega)
theorem all_ev {α β : Type} {g : Nat → α → Option β} {v : α → β} : ∀ (L : List α), (∀ x ∈ L, Ev (fun k => g k x) (v x)) → ∃ K, ∀ k, K ≤ k → ∀ x ∈ L, g k x = some (v x)
 | [], _ => ⟨0, fun k _ x hx => by cases hx⟩
 | x :: L, h => by
   obtain ⟨K1, h1⟩ := h x (List.mem_cons_self ..)
   obtain ⟨K2, h2⟩ := all_ev L (fun y hy => h y (List.mem_cons_of_mem _ hy))
   refine ⟨max K1 K2, fun k hk y hy => ?_⟩
   rcases List.mem_cons.1 hy with rfl | hy
   · exact h1 k (by omega)
   · exact h2 k (by omega) y hy
theorem Small.turn {r : List (List Int)} (h : Small r) : Small (r.map turnl) := by
 refine ⟨by rw [List.length_map]; exact h.1, fun l hl => ?_⟩
 obtain ⟨x, hx, rfl⟩ := List.mem_map.1 hl
 rw [turnl_length]
 exact h.2 x hx
theorem Small.rev {r : List (List Int)} (h : Small r) : Small (r.map List.reverse) := by
 refine ⟨by rw [List.length_map]; exact h.1, fun l hl => ?_⟩
 obtain ⟨x, hx, rfl⟩ := List.mem_map.1 hl
 rw [List.length_reverse]
 exact h.2 x hx
theorem gi_reverse {l : List Int} {p : Nat} (h : p < l.length) : gi l.reverse p = gi l (l.length - 1 - p) := by
 rw [gi_get (by simpa using h), gi_get (by omega), List.getElem_reverse]
theorem reverse_ev {l : List Int} (hl : l.length * 8 ≤ 140737488355328) : Ev (fun k => slices_Reverse_int_int.f k l) l.reverse := by
 have loop : ∀ (d i : Nat) (x : List Int), l.length ≤ i + d → x.length = l.length → (∀ p, p < l.length → gi x p = if p < i ∨ l.length - i ≤ p then gi l (l.length - 1 - p) else gi l p) → Ev (fun k => slices_Reverse_int_int.l0 k x (i : Int) ((l.length : Int) - 1 - (i : Int))) l.reverse := by
   have last : ∀ (i : Nat) (x : List Int), ¬ ((i : Int) < (l.length : Int) - 1 - (i : Int)) → x.length = l.length → (∀ p, p < l.length → gi x p = if p < i ∨ l.length - i ≤ p then gi l (l.length - 1 - p) else gi l p) → Ev (fun k => slices_Reverse_int_int.l0 k x (i : Int) ((l.length : Int) - 1 - (i : Int))) l.reverse := by
     intro i x hc hx hp
     have e : x = l.reverse := by
       refine gi_ext (by simpa using hx) fun p hpl => ?_
       rw [hp p (by omega), gi_reverse (by omega)]
       by_cases c : p < i ∨ l.length - i ≤ p
       · rw [if_pos c]
       · rw [if_neg c]; congr 1; omega
     rw [← e]
     refine Ev.step (f := fun _ => some x) (fun k => ?_) (Ev.now _)
     simp only [slices_Reverse_int_int.l0]
     rw [if_neg hc]
   intro d
   induction d with
   | zero => intro i x hi hx hp; exact last i x (by omega) hx hp
   | succ d ih =>
     intro i x hi hx hp
     by_cases hc : (i : Int) < (l.length : Int) - 1 - (i : Int)
     · have hj : (l.length : Int) - 1 - (i : Int) = ((l.length - 1 - i : Nat) : Int) := by omega
       have hI := ih (i + 1) ((x.set i (gi x (l.length - 1 - i))).set (l.length - 1 - i) (gi x i)) (by omega) (List.length_set.trans (List.length_set.trans hx)) (fun p hpl => by
         rw [gi_set, gi_set, List.length_set, hx]
         by_cases c1 : l.length - 1 - i = p
         · subst c1
           rw [if_pos ⟨rfl, hpl⟩, if_pos (by omega), hp i (by omega), if_neg (by omega)]
           congr 1; omega
         · rw [if_neg (fun q => c1 q.1)]
           by_cases c2 : i = p
           · subst c2
             rw [if_pos ⟨rfl, hpl⟩, if_pos (by omega), hp _ (by omega), if_neg (by omega)]
           · rw [if_neg (fun q => c2 q.1), hp p hpl]
             by_cases c3 : p < i ∨ l.length - i ≤ p
             · rw [if_pos c3, if_pos (by omega)]
             · rw [if_neg c3, if_neg (by omega)])
       refine Ev.step (fun k => ?_) hI
       simp only [slices_Reverse_int_int.l0]
       rw [if_pos hc, hj, if_pos (by omega), if_pos (by omega), if_pos (by omega), if_pos (by omega), gi_rd, gi_rd, w1 (by omega), IntWalk.wrap64_in _ (by omega), Int.toNat_natCast, Int.toNat_natCast, show ((l.length - 1 - i : Nat) : Int) - 1 = (l.length : Int) - 1 - ((i + 1 : Nat) : Int) by omega]
     · exact last i x hc hx hp
 unfold slices_Reverse_int_int.f
 have key := loop l.length 0 l (by omega) rfl (fun p hp => by rw [if_neg (by omega)])
 refine Ev.congr (fun k => ?_) key
 rw [IntWalk.wrap64_in _ (by omega), show (l.length : Int) - 1 - ((0 : Nat) : Int) = (l.length : Int) - 1 by omega]
 rfl
theorem mirror_ev {r : List (List Int)} (h : Small r) : Ev (fun k => rot_Mirror.f k r) ((r.map List.reverse).map turnl) := by
 obtain ⟨K1, h1⟩ := all_ev (g := fun k l => rot_least.f k (List.reverse l)) (v := fun l => ((leastAt l.reverse : Nat) : Int)) r (fun l hl => least_ev (by have := h.2 l hl; rw [List.length_reverse]; omega))
 obtain ⟨K2, h2⟩ := all_ev (g := slices_Reverse_int_int.f) (v := List.reverse) r (fun l hl => reverse_ev (by have := h.2 l hl; omega))
 refine ⟨max K1 K2, fun k hk => ?_⟩
 show rot_Mirror.f k r = _
 unfold rot_Mirror.f
 rw [if_pos]
 unfold rot_Mirror.fit
 have h3 := h.1
 rw [Bool.and_eq_true, List.all_eq_true, decide_eq_true_eq]
 refine ⟨by omega, fun l hl => ?_⟩
 have h4 := h.2 l hl
 rw [Bool.and_eq_true, Bool.and_eq_true, beq_iff_eq, beq_iff_eq, decide_eq_true_eq]
 exact ⟨h1 k (by omega) l hl, h2 k (by omega) l hl, by omega⟩
def IsTurn (a b : List Int) : Prop := ∃ x y, a = x ++ y ∧ b = y ++ x
theorem IsTurn.refl (a : List Int) : IsTurn a a := ⟨a, [], by simp, by simp⟩
theorem IsTurn.symm {a b : List Int} (h : IsTurn a b) : IsTurn b a := by
 obtain ⟨x, y, h1, h2⟩ := h
 exact ⟨y, x, h2, h1⟩
theorem IsTurn.trans {a b c : List Int} (h : IsTurn a b) (k : IsTurn b c) : IsTurn a c := by
 obtain ⟨x, y, rfl, rfl⟩ := h
 obtain ⟨u, v, h1, rfl⟩ := k
 rcases List.append_eq_append_iff.1 h1 with ⟨p, rfl, rfl⟩ | ⟨p, rfl, rfl⟩
 · exact ⟨p, v ++ y, by simp, by simp⟩
 · exact ⟨x ++ u, p, by simp, by simp⟩
theorem IsTurn.rev {a b : List Int} (h : IsTurn a b) : IsTurn a.reverse b.reverse := by
 obtain ⟨x, y, rfl, rfl⟩ := h
 exact ⟨y.reverse, x.reverse, by simp, by simp⟩
theorem IsTurn.mem {a b : List Int} (h : IsTurn a b) (z : Int) : z ∈ a ↔ z ∈ b := by
 obtain ⟨x, y, rfl, rfl⟩ := h
 rw [List.mem_append, List.mem_append]
 exact Or.comm
theorem IsTurn.nodup {a b : List Int} (h : IsTurn a b) (hn : a.Nodup) : b.Nodup := by
 obtain ⟨x, y, rfl, rfl⟩ := h
 exact List.perm_append_comm.nodup_iff.1 hn
theorem IsTurn.length {a b : List Int} (h : IsTurn a b) : a.length = b.length := by
 obtain ⟨x, y, rfl, rfl⟩ := h
 simp; omega
theorem isTurn_turnl (l : List Int) : IsTurn l (turnl l) := ⟨l.take (leastAt l), l.drop (leastAt l), (List.take_append_drop ..).symm, rfl⟩
section
variable {fr : List Int} {n : Nat} {r s : List (List Int)}
theorem gl_map (f : List Int → List Int) {v : Nat} (h : v < r.length) : gl (r.map f) v = f (gl r v) := by
 rw [gl_get (by simpa using h), List.getElem_map, gl_get h]
theorem isRot_map (h : IsRot fr n r) {f : List Int → List Int} (hf : ∀ l : List Int, l.Nodup → (f l).Nodup ∧ ∀ x, x ∈ f l ↔ x ∈ l) : IsRot fr n (r.map f) := by
 have hl := h.len
 refine ⟨by rw [List.length_map]; exact hl, fun v hv => ?_, fun v hv x => ?_⟩
 · rw [gl_map f (by omega)]
   exact (hf _ (h.nodup v hv)).1
 · rw [gl_map f (by omega), (hf _ (h.nodup v hv)).2]
   exact h.mem v hv x
theorem IsRot.canon (h : IsRot fr n r) : IsRot fr n (r.map turnl) := isRot_map h fun l hl => ⟨(isTurn_turnl l).nodup hl, fun x => ((isTurn_turnl l).mem x).symm⟩
theorem IsRot.reverse (h : IsRot fr n r) : IsRot fr n (r.map List.reverse) := isRot_map h fun l hl => ⟨(List.reverse_perm l).nodup_iff.2 hl, fun x => List.mem_reverse⟩
theorem turn_gi {x y : List Int} {i : Nat} (hi : i < (x ++ y).length) : gi (y ++ x) i = gi (x ++ y) ((x.length + i) % (x ++ y).length) := by
 have hl : (x ++ y).length = x.length + y.length := List.length_append
 have hm := Nat.mod_lt (x.length + i) (show 0 < (x ++ y).length by omega)
 rw [gi_get (by rw [List.length_append]; omega), gi_get hm, List.getElem_append, List.getElem_append]
 rcases Nat.lt_or_ge (x.length + i) (x ++ y).length with h | h
 · have e : (x.length + i) % (x ++ y).length = x.length + i := Nat.mod_eq_of_lt h
   rw [dif_pos (by omega), dif_neg (by omega)]
   congr 1
   omega
 · have e : (x.length + i) % (x ++ y).length = x.length + i - (x ++ y).length := by rw [Nat.mod_eq_sub_mod h, Nat.mod_eq_of_lt (by omega)]
   rw [dif_neg (by omega), dif_pos (by omega)]
   congr 1
   omega
theorem back_at {l T : List Int} (h : IsTurn l.reverse T) (hn : l.Nodup) {j : Nat} (hj : j < l.length) : ∃ i, i < T.length ∧ gi T i = gi l ((j + 1) % l.length) ∧ gi T ((i + 1) % T.length) = gi l j := by
 have hlen := h.length
 rw [List.length_reverse] at hlen
 have hm := Nat.mod_lt (j + 1) (show 0 < l.length by omega)
 obtain ⟨i, hi, e⟩ := List.getElem_of_mem ((h.mem (gi l ((j + 1) % l.length))).1 (List.mem_reverse.2 (by rw [gi_get hm]; exact List.getElem_mem hm)))
 refine ⟨i, hi, by rw [gi_get hi]; exact e, ?_⟩
 rw [← gi_get hi] at e
 obtain ⟨x, y, hx, rfl⟩ := h
 have hxl : (x ++ y).length = l.length := by rw [← hx, List.length_reverse]
 rw [turn_gi (by omega), hxl, ← hx] at e
 have hm2 := Nat.mod_lt (i + 1) (show 0 < (y ++ x).length by omega)
 rw [turn_gi (by omega), hxl, ← hx, ← hlen]
 have q1 := Nat.mod_lt (x.length + i) (show 0 < l.length by omega)
 have q2 := Nat.mod_lt (x.length + (i + 1) % l.length) (show 0 < l.length by omega)
 rw [gi_reverse q1] at e
 rw [gi_reverse q2]
 have e2 : l.length - 1 - (x.length + i) % l.length = (j + 1) % l.length := by
   rw [gi_get (by omega), gi_get hm] at e
   have hinj : ∀ p q (hp : p < l.length) (hq : q < l.length), l[p] = l[q] → p = q := by
     intro p q hp hq ee
     rcases Nat.lt_trichotomy p q with g | g | g
     · exact absurd ee (List.pairwise_iff_getElem.1 hn p q hp hq g)
     · exact g
     · exact absurd ee.symm (List.pairwise_iff_getElem.1 hn q p hq hp g)
   exact hinj _ _ _ _ e
 have e3 : (x.length + (i + 1) % l.length) % l.length = ((x.length + i) % l.length + 1) % l.length := by
   rw [Nat.add_mod_mod, Nat.mod_add_mod]; rfl
 rw [e3]
 congr 1
 obtain ⟨q, hq⟩ : ∃ q, q = (x.length + i) % l.length := ⟨_, rfl⟩
 rw [← hq] at e2 q1 ⊢
 rcases Nat.lt_or_ge (j + 1) l.length with g | g
 · rw [Nat.mod_eq_of_lt g] at e2
   rw [Nat.mod_eq_of_lt (by omega)]; omega
 · have : j + 1 = l.length := by omega
   rw [this, Nat.mod_self] at e2
   rw [show q + 1 = l.length by omega, Nat.mod_self]; omega
theorem back_next {fr : List Int} (hf : ∀ x, x < fr.length → 0 ≤ gi fr x ∧ gi fr x < n) (hr : IsRot fr n r) {nx bk : List Int} (h1 : NextOf r fr.length nx) (h2 : NextOf ((r.map List.reverse).map turnl) fr.length bk) {q : Nat} (hq : q < fr.length) : 0 ≤ gi nx q ∧ gi nx q < (fr.length : Int) ∧ gi bk (gi nx q).toNat = (q : Int) := by
 obtain ⟨v, j, g1, g2, g3, g4⟩ := hr.place hf hq
 have hl := hr.len
 have a := h1.2 v (by omega) j g3
 rw [g4, Int.toNat_natCast] at a
 have hm := Nat.mod_lt (j + 1) (show 0 < (gl r v).length by omega)
 obtain ⟨b1, b2, _⟩ := hr.at g1 hm
 rw [a]
 refine ⟨b1, b2, ?_⟩
 have hT : IsTurn (gl r v).reverse (turnl (gl r v).reverse) := isTurn_turnl _
 obtain ⟨i, c1, c2, c3⟩ := back_at hT (hr.nodup v g1) g3
 have e : gl ((r.map List.reverse).map turnl) v = turnl (gl r v).reverse := by rw [gl_map turnl (by simp; omega), gl_map List.reverse (by omega)]
 have b := h2.2 v (by simp; omega) i (by rw [e]; exact c1)
 rw [e, c2, c3, g4] at b
 exact b
end
end Go.Proofs.Yteeihjpnhjnknaa.Rot
namespace Go.Proofs.Yteeihjpnhjnknaa.GAll
open Go.RowKit Go.Proofs.YteeihjpnhjnknaaW.PrintWords Go.Proofs.YteeihjpnhjnknaaW.PrintLast Go.Proofs.YteeihjpnhjnknaaW.PrintMore
attribute [local go_sem] max2_int min2_int max_two min_two max_three min_three max_four min_four   -- for this text's walks alone
set_option linter.unusedVariables false
set_option linter.unusedSimpArgs false
def canon_Code.f (k : Nat) (a0_0 : Int) (l0_1 : List S89) (l1 : List (List Int)) : Option (List Int × Int) := (canon_one.f k a0_0 l0_1 l1).bind fun t => if t.2.2.2 = 0 then (canon_plane_best.f k t.1 t.2.1 t.2.2.1).bind fun u => some (u.1, 0) else some ([], t.2.2.2)
theorem canon_Code.mono : ∀ a0 a1 a2 k, LeO (canon_Code.f k a0 a1 a2) (canon_Code.f (k + 1) a0 a1 a2) := fun _ _ _ _ =>
 LeO.bind (canon_one.mono _ _ _ _) (fun _ => LeO.ite (LeO.bind (canon_plane_best.mono _ _ _ _) (fun _ => LeO.refl _)) (LeO.refl _))
theorem canon_Code.calls (k : Nat) (a0_0 : Int) (A0_1 : Option Addr) (c0_1 : Nat) (l0_1 : List (S89)) (A1 : Option Addr) (c1 : Nat) (l1 : List (List Int)) (r1 : List Int) (r2 : Int) (w : World) (hr0_1 : Kd.C k89 w A0_1 l0_1.length l0_1) (hc0_1 : l0_1.length ≤ c0_1) (hr1 : Kd.C (Kd.slice 3 (Kd.int .i64)) w A1 l1.length l1) (hc1 : l1.length ≤ c1) (h : canon_Code.f k a0_0 l0_1 l1 = some (r1, r2)) :
   Calls Try.prog 16 #[.agg #[.int .i64 a0_0, .slice A0_1 l0_1.length c0_1], .slice A1 l1.length c1] w fun e w' => ∃ v0_ : Value, e = .returned (.tuple #[v0_, .int .i64 r2]) ∧ Kd.R (Kd.int .i64) 3 w' w.heap.size (fun _ => True) v0_ r1 ∧ Below w.heap.size w w' := by
 obtain ⟨⟨n, nx, tl, e⟩, ht, h⟩ := Option.bind_eq_some_iff.mp h
 simp only at h
 refine One.code_calls a0_0 A0_1 l0_1.length c0_1 _ n nx tl e w (fun W hW => canon_one.calls k a0_0 A0_1 c0_1 l0_1 A1 c1 l1 n nx tl e W (Kd.C_below hr0_1 hW) hc0_1 (Kd.C_below hr1 hW) hc1 ht) (r1, r2) (fun he => ?_) (fun he => ?_)
 · rw [if_neg he] at h
   exact (Option.some.inj h).symm
 · rw [if_pos he] at h
   obtain ⟨⟨cd, od, j⟩, hu, h⟩ := Option.bind_eq_some_iff.mp h
   obtain ⟨rfl, rfl⟩ : cd = r1 ∧ 0 = r2 := by simpa using h
   exact ⟨rfl, j, fun W B1 d1 B2 d2 g1 g2 g3 g4 => (canon_plane_best.calls k n B1 d1 nx B2 d2 tl cd od j W g1 g2 g3 g4 hu).mono fun _ _ ⟨v0, v1, q1, q2, _, q4⟩ => ⟨v0, v1, q1, Kd.R_mono q2 (fun _ _ => trivial), q4⟩⟩
def canon_Turns.f (k : Nat) (a0_0 : Int) (l0_1 : List S89) (l1 : List (List Int)) : Option (Int × Int) := (canon_one.f k a0_0 l0_1 l1).bind fun t => if t.2.2.2 = 0 then (canon_plane_best.f k t.1 t.2.1 t.2.2.1).bind fun u => some (u.2.2, 0) else some (0, t.2.2.2)
theorem canon_Turns.mono : ∀ a0 a1 a2 k, LeO (canon_Turns.f k a0 a1 a2) (canon_Turns.f (k + 1) a0 a1 a2) := fun _ _ _ _ =>
 LeO.bind (canon_one.mono _ _ _ _) (fun _ => LeO.ite (LeO.bind (canon_plane_best.mono _ _ _ _) (fun _ => LeO.refl _)) (LeO.refl _))
theorem canon_Turns.calls (k : Nat) (a0_0 : Int) (A0_1 : Option Addr) (c0_1 : Nat) (l0_1 : List (S89)) (A1 : Option Addr) (c1 : Nat) (l1 : List (List Int)) (r1 : Int) (r2 : Int) (w : World) (hr0_1 : Kd.C k89 w A0_1 l0_1.length l0_1) (hc0_1 : l0_1.length ≤ c0_1) (hr1 : Kd.C (Kd.slice 3 (Kd.int .i64)) w A1 l1.length l1) (hc1 : l1.length ≤ c1) (h : canon_Turns.f k a0_0 l0_1 l1 = some (r1, r2)) :
   Calls Try.prog 18 #[.agg #[.int .i64 a0_0, .slice A0_1 l0_1.length c0_1], .slice A1 l1.length c1] w fun e w' => e = .returned (.tuple #[.int .i64 r1, .int .i64 r2]) ∧ Below w.heap.size w w' := by
 obtain ⟨⟨n, nx, tl, e⟩, ht, h⟩ := Option.bind_eq_some_iff.mp h
 simp only at h
 refine One.turns_calls a0_0 A0_1 l0_1.length c0_1 _ n nx tl e w (fun W hW => canon_one.calls k a0_0 A0_1 c0_1 l0_1 A1 c1 l1 n nx tl e W (Kd.C_below hr0_1 hW) hc0_1 (Kd.C_below hr1 hW) hc1 ht) (r1, r2) (fun he => ?_) (fun he => ?_)
 · rw [if_neg he] at h
   exact (Option.some.inj h).symm
 · rw [if_pos he] at h
   obtain ⟨⟨cd, od, j⟩, hu, h⟩ := Option.bind_eq_some_iff.mp h
   obtain ⟨rfl, rfl⟩ : j = r1 ∧ 0 = r2 := by simpa using h
   exact ⟨rfl, cd, fun W B1 d1 B2 d2 g1 g2 g3 g4 => (canon_plane_best.calls k n B1 d1 nx B2 d2 tl cd od j W g1 g2 g3 g4 hu).mono fun _ _ ⟨v0, v1, q1, q2, _, q4⟩ => ⟨v0, v1, q1, Kd.R_mono q2 (fun _ _ => trivial), q4⟩⟩
end Go.Proofs.Yteeihjpnhjnknaa.GAll
namespace Go.Proofs.Yteeihjpnhjnknaa.Seen
open Go.RowKit Go.Proofs.YteeihjpnhjnknaaW.PrintWords Go.Proofs.Yteeihjpnhjnknaa.Mem
set_option linter.unusedVariables false
set_option linter.unusedSimpArgs false
section
variable {n : Nat} {nx bk tos : List Int} {f : Int → Int}
structure Back (nx bk : List Int) : Prop where
 len : bk.length = nx.length
 go : ∀ q : Nat, q < nx.length → 0 ≤ gi nx q ∧ gi nx q < (nx.length : Int) ∧ gi bk (gi nx q).toNat = (q : Int)
 come : ∀ q : Nat, q < nx.length → 0 ≤ gi bk q ∧ gi bk q < (nx.length : Int) ∧ gi nx (gi bk q).toNat = (q : Int)
theorem Back.symm (h : Back nx bk) : Back bk nx := ⟨h.len.symm, fun q hq => by rw [h.len] at hq ⊢; exact h.come q hq, fun q hq => by rw [h.len] at hq ⊢; exact h.go q hq⟩
theorem Aut.back (h : Back nx bk) (k : Aut nx tos f) : Aut bk tos f := by
 have key : ∀ x, In bk x → In nx x := fun x hx => ⟨hx.1, by have := hx.2; rw [h.len] at this; exact this⟩
 have yek : ∀ x, In nx x → In bk x := fun x hx => ⟨hx.1, by rw [h.len]; exact hx.2⟩
 refine ⟨fun x hx => yek _ (k.map x (key x hx)), fun x hx => ?_, fun x hx => k.twin x (key x hx), fun x y hx hy => k.inj x y (key x hx) (key y hy)⟩
 obtain ⟨q, rfl, hq⟩ := (key x hx).nat
 rw [Int.toNat_natCast]
 obtain ⟨a, b, c⟩ := h.come q hq
 obtain ⟨y, hy⟩ := Int.eq_ofNat_of_zero_le a
 rw [hy] at a b c ⊢
 rw [Int.toNat_natCast] at c
 have hyi : In nx (y : Int) := ⟨a, b⟩
 have e := k.next (y : Int) hyi
 rw [Int.toNat_natCast, c] at e
 rw [e]
 obtain ⟨z, hz, hzl⟩ := (k.map _ hyi).nat
 rw [hz, Int.toNat_natCast]
 exact (h.go z hzl).2.2.symm
theorem cls_sub (h : Back nx bk) (hw : Web n nx tos) (hv : Web n bk tos) (hs : Simple nx tos) {x : Nat} (hx : x < nx.length) : (cls n nx tos x).length ≤ (cls n bk tos x).length := by
 refine sub_le _ _ (cls_nodup x) fun y hy => ?_
 rw [mem_cls] at hy ⊢
 obtain ⟨f, k, e⟩ := iso hw hs hx hy.1 hy.2.symm
 refine ⟨by rw [h.len]; exact hy.1, ?_⟩
 have := (k.back h).code hv (y := (x : Int)) ⟨by omega, by rw [h.len]; omega⟩
 rw [e] at this
 exact this
theorem cls_back (h : Back nx bk) (hw : Web n nx tos) (hv : Web n bk tos) (hs : Simple nx tos) (hs2 : Simple bk tos) {x y : Nat} (hx : x < nx.length) (hy : y < nx.length) : (cls n nx tos x).length = (cls n bk tos y).length := by
 have a := cls_sub h hw hv hs hx
 have b := cls_sub h.symm hv hw hs2 (x := y) (by rw [h.len]; exact hy)
 have c := cls_le hv hs2 (g := x) (x := y) (by rw [h.len]; exact hx) (by rw [h.len]; exact hy)
 have d := cls_le hw hs (g := y) (x := x) hy hx
 omega
end
end Go.Proofs.Yteeihjpnhjnknaa.Seen
namespace Go.Proofs.Yteeihjpnhjnknaa.Rot
open Go.RowKit Go.Proofs.YteeihjpnhjnknaaW.PrintWords Go.Proofs.YteeihjpnhjnknaaW.PrintLast Go.Proofs.YteeihjpnhjnknaaW.PrintMore Go.Proofs.Yteeihjpnhjnknaa.GAll Go.Proofs.Yteeihjpnhjnknaa.Mem Go.Proofs.Yteeihjpnhjnknaa.Seen
set_option linter.unusedVariables false
set_option linter.unusedSimpArgs false
abbrev mir (r : List (List Int)) : List (List Int) := (r.map List.reverse).map turnl
section
variable {n : Nat} {l : List Ed} {r : List (List Int)}
theorem IsMap.mir (h : IsMap n l r) : IsMap n l (mir r) := ⟨h.good, h.rot.reverse.canon⟩
theorem IsMap.back (h : IsMap n l r) : Back (nxOf l r) (nxOf l (Rot.mir r)) := by
 have k := h.mir
 have e : (nxOf l r).length = (frs l).length := by rw [h.len, frs_length]
 have a : ∀ q : Nat, q < (frs l).length → 0 ≤ gi (nxOf l r) q ∧ gi (nxOf l r) q < ((frs l).length : Int) ∧ gi (nxOf l (Rot.mir r)) (gi (nxOf l r) q).toNat = (q : Int) := fun q hq => back_next (frs_in h.good) h.rot (nxOf_next h.rot) (nxOf_next k.rot) hq
 have b : ∀ q : Nat, q < (frs l).length → 0 ≤ gi (nxOf l (Rot.mir r)) q ∧ gi (nxOf l (Rot.mir r)) q < ((frs l).length : Int) ∧ gi (nxOf l (Rot.mir (Rot.mir r))) (gi (nxOf l (Rot.mir r)) q).toNat = (q : Int) := fun q hq => back_next (frs_in h.good) k.rot (nxOf_next k.rot) (nxOf_next k.mir.rot) hq
 refine ⟨by rw [k.len, h.len], fun q hq => by rw [e] at hq ⊢; exact a q hq, fun q hq => ?_⟩
 rw [e] at hq ⊢
 obtain ⟨b1, b2, b3⟩ := b q hq
 refine ⟨b1, b2, ?_⟩
 have hinj : ∀ x : Nat, x < (frs l).length → ∃ y : Nat, y < (frs l).length ∧ gi (nxOf l r) y = (x : Int) := by
   intro x hx
   obtain ⟨v, j, g1, g2, g3, g4⟩ := h.rot.place (frs_in h.good) hx
   have hm := Nat.mod_lt (j + ((gl r v).length - 1)) (show 0 < (gl r v).length by omega)
   have hN := nxOf_next h.rot
   have hlen := h.rot.len
   obtain ⟨c1, c2, _⟩ := h.rot.at g1 hm
   obtain ⟨y, hy⟩ := Int.eq_ofNat_of_zero_le c1
   refine ⟨y, by omega, ?_⟩
   have := hN.2 v (by omega) _ hm
   rw [hy, Int.toNat_natCast] at this
   rw [this, ← g4]
   congr 1
   obtain ⟨L, hL⟩ : ∃ L, L = (gl r v).length := ⟨_, rfl⟩
   rw [← hL] at g3 ⊢
   rcases Nat.eq_zero_or_pos j with z | z
   · rw [z, Nat.zero_add, Nat.mod_eq_of_lt (show L - 1 < L by omega), show L - 1 + 1 = L by omega, Nat.mod_self]
   · rw [show j + (L - 1) = (j - 1) + L by omega, Nat.add_mod_right, Nat.mod_eq_of_lt (show j - 1 < L by omega), show j - 1 + 1 = j by omega, Nat.mod_eq_of_lt g3]
 obtain ⟨y, hy, ey⟩ := hinj q hq
 have := (a y hy).2.2
 rw [ey, Int.toNat_natCast] at this
 rw [this, Int.toNat_natCast, ey]
theorem IsMap.mir_mir (h : IsMap n l r) : nxOf l (Rot.mir (Rot.mir r)) = nxOf l r := by
 have a := h.back
 have b := h.mir.back
 refine gi_ext (by rw [h.mir.mir.len, h.len]) fun p hp => ?_
 have hp2 : p < (nxOf l r).length := by rw [h.mir.mir.len] at hp; rw [h.len]; exact hp
 obtain ⟨c1, c2, c3⟩ := a.go p hp2
 obtain ⟨q, hq⟩ := Int.eq_ofNat_of_zero_le c1
 rw [hq] at c2 c3 ⊢
 rw [Int.toNat_natCast] at c3
 have := (b.go q (by rw [a.len]; omega)).2.2
 rw [c3, Int.toNat_natCast] at this
 exact this
theorem mir_codes (h : IsMap n l r) : codes n l (mir (mir r)) = codes n l r := by
 funext q
 unfold codes seenOf
 rw [h.mir_mir]
theorem turns_cls (h : IsMap n l r) (hp : parts n l = 1) (h0 : 0 < l.length) : (bestOf n l r).2 = (cls n (nxOf l r) (toOf l) (bestOf n l r).1).length := by
 rw [(turns_dvd h hp h0).2.2.1]
 show _ = ((List.range (nxOf l r).length).filter _).length
 rw [h.len]
 rfl
theorem mir_turns (h : IsMap n l r) (hp : parts n l = 1) (h0 : 0 < l.length) : (bestOf n l (mir r)).2 = (bestOf n l r).2 := by
 have hb := (bst_le (codes n l r) (2 * l.length - 1)).1
 have hc := (bst_le (codes n l (mir r)) (2 * l.length - 1)).1
 rw [turns_cls h hp h0, turns_cls h.mir hp h0]
 exact (cls_back h.back (web h hp) (web h.mir hp) (simple h) (simple h.mir) (x := (bestOf n l r).1) (y := (bestOf n l (mir r)).1) (by rw [h.len]; unfold bestOf; omega) (by rw [h.len]; unfold bestOf; omega)).symm
theorem IsMap.check (hm : IsMap n l r) (hs : Small r) : Ev (fun k => rot_Check.f k (n : Int) l r) (0, 0) := by
 obtain ⟨res, h1, _, h3, h4, _⟩ := both_check (n : Int) l r hs
 have h0 := h4.2 ⟨n, rfl, hm.good, hm.rot⟩
 rw [h3 h0] at h1
 exact h1
theorem look_ev (hm : IsMap n l r) (hs : Small r) (hp : parts n l = 1) (h0 : 0 < l.length) : Ev (fun k => canon_look.f k (n : Int) l r) ((n : Int), nxOf l r, toOf l, 0, 0) := by
 obtain ⟨o, o1, _⟩ := of_ev hm.good
 have hfit : (nxOf l r).length = 2 * l.length ∧ l.length ≤ 4194304 ∧ (0 : Int) = 0 := ⟨hm.len, hm.good.2.2.1, rfl⟩
 have hres : canon_look.told (n : Int) l (nxOf l r) (o, (parts n l : Int), 0) = some ((n : Int), nxOf l r, toOf l, 0, 0) := by
   unfold canon_look.told
   rw [if_pos hfit, if_pos ⟨by rw [hp]; rfl, by omega⟩]
   rfl
 unfold canon_look.f
 exact Ev.bind (next_ev hm (hm.check hs)) (Ev.congr (fun k => if_pos rfl) (Ev.bind o1 (Ev.congr (fun k => hres) (Ev.now _))))
theorem one_ev {n : Int} {l : List Ed} {r : List (List Int)} {a : Int} {b c : List Int} {e f : Int} (h : Ev (fun k => canon_look.f k n l r) (a, b, c, e, f)) : Ev (fun k => canon_one.f k n l r) (a, b, c, if e = 0 then f else e) := by
 unfold canon_one.f
 exact Ev.bind h (Ev.now _)
abbrev codeOf (n : Nat) (l : List Ed) (r : List (List Int)) : List Int := codes n l r (bestOf n l r).1
theorem code_ok (hm : IsMap n l r) (hs : Small r) (hp : parts n l = 1) (h0 : 0 < l.length) : Ev (fun k => canon_Code.f k (n : Int) l r) (codeOf n l r, 0) := by
 have h := one_ev (look_ev hm hs hp h0)
 rw [if_pos rfl] at h
 unfold canon_Code.f
 exact Ev.bind h (Ev.congr (fun k => if_pos rfl) (Ev.bind (best_ev hm h0) (Ev.now _)))
theorem turns_ok (hm : IsMap n l r) (hs : Small r) (hp : parts n l = 1) (h0 : 0 < l.length) : Ev (fun k => canon_Turns.f k (n : Int) l r) (((bestOf n l r).2 : Int), 0) := by
 have h := one_ev (look_ev hm hs hp h0)
 rw [if_pos rfl] at h
 unfold canon_Turns.f
 exact Ev.bind h (Ev.congr (fun k => if_pos rfl) (Ev.bind (best_ev hm h0) (Ev.now _)))
theorem code_bad {a : Int} {p : Int} {nx tl : List Int} {e f : Int} (h : Ev (fun k => canon_look.f k a l r) (p, nx, tl, e, f)) (he : (if e = 0 then f else e) ≠ 0) : Ev (fun k => canon_Code.f k a l r) ([], if e = 0 then f else e) := by
 unfold canon_Code.f
 exact Ev.bind (one_ev h) (Ev.congr (fun k => if_neg he) (Ev.now _))
theorem match_ok {s : List (List Int)} (hm : IsMap n l r) (km : IsMap n l s) (hs : Small r) (ks : Small s) (hp : parts n l = 1) (h0 : 0 < l.length) : ∃ o, Ev (fun k => canon_Match.f k (n : Int) l r (n : Int) l s) (o, decide (codeOf n l r = codeOf n l s), 0) := by
 have b1 := best_ev hm h0
 have b2 := best_ev km h0
 have hb1 := (bst_le (codes n l r) (2 * l.length - 1)).1
 have hb2 := (bst_le (codes n l s) (2 * l.length - 1)).1
 have F1 := full (web hm hp) (root := (bestOf n l r).1) (by rw [hm.len]; unfold bestOf; omega)
 have F2 := full (web km hp) (root := (bestOf n l s).1) (by rw [km.len]; unfold bestOf; omega)
 have q1 := less_ev (a := codeOf n l r) (b := codeOf n l s) (seen_cd hm _)
 have q2 := less_ev (a := codeOf n l s) (b := codeOf n l r) (seen_cd km _)
 have hprog : ∀ {x}, Ev (fun k => canon_Match.both k (n : Int) ((n : Int), nxOf l r, toOf l, 0, 0) ((n : Int), nxOf l s, toOf l, 0, 0)) x → Ev (fun k => canon_Match.f k (n : Int) l r (n : Int) l s) x := fun h => by
   unfold canon_Match.f
   exact Ev.bind (look_ev hm hs hp h0) (Ev.bind (look_ev km ks hp h0) (Ev.congr (fun k => by rw [if_neg (fun q => by rcases q with q | q <;> exact absurd (show (0 : Int) = 1 from q) (by decide)), if_pos (by rfl)]) h))
 by_cases e : codeOf n l r = codeOf n l s
 · have hn := hm.good.2.1
   have hlen : (seenOf n l r (bestOf n l r).1).ord.length = n := F1.ord
   have hlen2 : (seenOf n l s (bestOf n l s).1).ord.length = n := F2.ord
   have out1 : canon_Match.out (n : Int) (seenOf n l r (bestOf n l r).1).ord (seenOf n l s (bestOf n l s).1).ord = some (Match.putL (seenOf n l r (bestOf n l r).1).ord (seenOf n l s (bestOf n l s).1).ord n n, true, 0) := by
     unfold canon_Match.out
     rw [hlen, hlen2, if_pos, Int.toNat_natCast]
     rw [Bool.and_eq_true, decide_eq_true_eq, List.all_eq_true]
     refine ⟨⟨by omega, by omega, Nat.le_refl _, by omega⟩, fun x hx => ?_⟩
     obtain ⟨i, hi, rfl⟩ := List.getElem_of_mem hx
     have := F1.inO i (by rw [← hlen]; exact hi)
     have e3 : gi (seenOf n l r (bestOf n l r).1).ord i = (seenOf n l r (bestOf n l r).1).ord[i] := gi_get hi
     rw [← e3]
     exact decide_eq_true this
   rw [decide_eq_true e]
   refine ⟨_, hprog (x := (Match.putL (seenOf n l r (bestOf n l r).1).ord (seenOf n l s (bestOf n l s).1).ord n n, true, 0)) ?_⟩
   unfold canon_Match.both
   refine Ev.bind b1 ?_
   refine Ev.bind b2 ?_
   refine Ev.bind q1 ?_
   refine Ev.congr (fun k => if_neg (by rw [e, ltB_self]; decide)) ?_
   refine Ev.bind q2 ?_
   refine Ev.congr (fun k => if_neg (by rw [e, ltB_self]; decide)) ?_
   exact Ev.congr (fun k => out1) (Ev.now _)
 · rw [decide_eq_false e]
   refine ⟨[], hprog ?_⟩
   unfold canon_Match.both
   refine Ev.bind b1 (Ev.bind b2 (Ev.bind q1 ?_))
   by_cases w1 : ltB (codeOf n l r) (codeOf n l s) = true
   · exact Ev.congr (fun k => if_pos w1) (Ev.now _)
   · refine Ev.congr (fun k => if_neg w1) (Ev.bind q2 ?_)
     refine Ev.congr (fun k => if_pos ?_) (Ev.now _)
     cases w2 : ltB (codeOf n l s) (codeOf n l r) with
     | true => rfl
     | false => exact absurd (ltB_eq _ _ (by simpa using w1) w2) e
end
end Go.Proofs.Yteeihjpnhjnknaa.Rot
namespace Go.Proofs.Yteeihjpnhjnknaa.Open
open Go.RowKit Go.Proofs.YteeihjpnhjnknaaW.PrintWords Go.Proofs.YteeihjpnhjnknaaW.PrintLast Go.Proofs.YteeihjpnhjnknaaW.PrintMore Go.ChangeShapes Go.WideShapes Go.Deep
set_option linter.unusedVariables false
set_option linter.unusedSimpArgs false
def I64 (n : Int) : Prop := -9223372036854775808 ≤ n ∧ n ≤ 9223372036854775807
def Opens {α : Type} (P : Program) (t : TypeId) (d : Kd α) (good : α → Prop) : Prop :=
 ∀ {H : Type} (enc : TypeId × Value → H) (w : World) (fuel : Nat) (cs : List Value) (x : DataW H × List MemPlace),
   DataW.trod enc P w 0 (fun _ => true) true fuel t cs = some x → (x.1.weights P t).all (· ≤ reachBytes) = true → ∃ v, d.K w v cs ∧ good v
section
variable {P : Program} {α β : Type}
theorem opens_int {t : TypeId} (ht : P.underlying t = some (.int .i64)) : Opens P t (Kd.int .i64) I64 := by
 intro H enc w fuel cs x h _
 obtain ⟨n, rfl, _, hw⟩ := DataW.trod_int ht h
 refine ⟨n, rfl, ?_⟩
 have hmin : IntKind.i64.min = -9223372036854775808 := rfl
 have hmax : IntKind.i64.max = 9223372036854775807 := rfl
 simp only [Lit.wf, Bool.and_eq_true, decide_eq_true_eq] at hw
 unfold I64; omega
theorem weightsAll_mem {H : Type} {e : TypeId} {l : List (DataW H)} (h : (DataW.weightsAll P e l).all (· ≤ reachBytes) = true) {d : DataW H} (hd : d ∈ l) : (d.weights P e).all (· ≤ reachBytes) = true := by
 induction l with
 | nil => cases hd
 | cons a l ih =>
   unfold DataW.weightsAll at h
   rw [List.all_append, Bool.and_eq_true] at h
   rcases List.mem_cons.1 hd with rfl | hd
   · exact h.1
   · exact ih h.2 hd
theorem opens_slice {t e : TypeId} {d : Kd α} {good : α → Prop} {B : Nat} (ht : P.underlying t = some (.slice e)) (hc : P.cellsOf e = d.sz) (hB : P.bytesOf e = B) (ho : Opens P e d good) (dflt : α) :
   Opens P t (Kd.slice e d) (fun xs => xs.length * B ≤ 140737488351232 ∧ ∀ x ∈ xs, good x) := by
 intro H enc w fuel cs x h hwt
 rcases open_slice ht h with ⟨rfl, rfl⟩ | ⟨a, len, cap, m, n, D, Pl, rfl, hb, hl, hm, hmm, rfl, hx⟩
 · exact ⟨[], ⟨none, 0, rfl, Nat.le_refl _, rfl, by simp, fun h => absurd h (by simp)⟩, by simp, by simp⟩
 · simp only [if_true] at hmm
   subst hmm
   unfold DataW.weights at hwt
   rw [ht] at hwt
   simp only [List.all_cons, List.all_append, Bool.and_eq_true, decide_eq_true_eq, List.length_map, List.length_range, hB] at hwt
   obtain ⟨hw1, hw2, _⟩ := hwt
   have each : ∀ i, i < len → ∃ v : α × List Value, v.2.length = d.sz ∧ d.K w v.1 v.2 ∧ good v.1 ∧ ∀ k u, v.2[k]? = some u → w.cell? (a.add (i * d.sz + k)) = some u := by
     intro i hi
     obtain ⟨cs', h1, h2⟩ := hx i (by omega)
     rw [hc] at h1
     obtain ⟨_, hlen, hcell⟩ := World.cells?_some h1
     obtain ⟨v, hv, hg⟩ := ho enc w n cs' _ h2 (weightsAll_mem hw2 (List.mem_map.2 ⟨i, List.mem_range.2 hi, rfl⟩))
     refine ⟨(v, cs'), hlen, hv, hg, fun k u hk => ?_⟩
     have hk2 : k < d.sz := by
       have hk3 : k < cs'.length := (List.getElem?_eq_some_iff.1 hk).1
       omega
     have := hcell k hk2
     rw [Go.Deep.add_add] at this
     rw [this]; exact hk
   haveI : Inhabited (α × List Value) := ⟨(dflt, [])⟩
   obtain ⟨q, hq⟩ := choose_lt each
   have hlen : ((List.range len).map fun i => (q i).1).length = len := by simp
   have hget : ∀ j p, ((List.range len).map fun i => (q i).1)[j]? = some p → j < len ∧ p = (q j).1 := by
     intro j p hj
     rw [List.getElem?_map] at hj
     by_cases hjl : j < len
     · rw [List.getElem?_range hjl] at hj
       exact ⟨hjl, by simpa using hj.symm⟩
     · rw [List.getElem?_eq_none (by simp; omega)] at hj; simp at hj
   refine ⟨(List.range len).map fun i => (q i).1, ⟨some a, m, by rw [hlen], by rw [hlen]; exact hl, by rw [hlen], ?_, fun _ => ⟨a, rfl, fun j p hj => ?_⟩⟩, ?_, ?_⟩
   · rw [hlen]; unfold maxLen at hm; omega
   · obtain ⟨hjl, rfl⟩ := hget j p hj
     exact ⟨(q j).2, (hq j hjl).1, (hq j hjl).2.1, (hq j hjl).2.2.2⟩
   · rw [hlen]
     have h5 : len * B ≤ (len + (m - len)) * B := Nat.mul_le_mul_right _ (by omega)
     have h6 : reachBytes = 140737488351232 := rfl
     omega
   · intro v hv
     obtain ⟨i, hi, rfl⟩ := List.mem_map.1 hv
     exact (hq i (List.mem_range.1 hi)).2.2.1
theorem opens_two {t : TypeId} {f0 f1 : Field} {a : Kd α} {b : Kd β} {ga : α → Prop} {gb : β → Prop} (ht : P.underlying t = some (.struct #[f0, f1])) (h0 : Opens P f0.type a ga) (h1 : Opens P f1.type b gb)
   (o0 : f0.offset = 0) (o1 : f1.offset = a.sz) (c0 : P.cellsOf f0.type = a.sz) (c1 : P.cellsOf f1.type = b.sz) (ct : P.cellsOf t = a.sz + b.sz) : Opens P t (Kd.pair a b) (fun x => ga x.1 ∧ gb x.2) := by
 intro H enc w fuel cs x h hwt
 obtain ⟨xs, n, _, rfl, hcl, hxl, hf⟩ := DataW.trod_struct ht h
 match xs, hxl with
 | [y0, y1], _ =>
   have g0 := hf 0 f0 rfl
   have g1 := hf 1 f1 rfl
   rw [o0, c0] at g0
   rw [o1, c1] at g1
   unfold DataW.weights at hwt
   rw [ht] at hwt
   simp only [List.map_cons, List.map_nil, DataW.weightsEach, List.all_append, Bool.and_eq_true] at hwt
   obtain ⟨hw0, hw1, _⟩ := hwt
   rw [List.drop_zero] at g0
   obtain ⟨v0, k0, q0⟩ := h0 enc w n _ y0 g0 hw0
   obtain ⟨v1, k1, q1⟩ := h1 enc w n _ y1 g1 hw1
   refine ⟨(v0, v1), ⟨_, _, ?_, k0, k1⟩, q0, q1⟩
   rw [List.take_of_length_le (l := cs.drop a.sz) (by rw [List.length_drop]; omega), List.take_append_drop]
theorem opens_iso {t : TypeId} {d : Kd α} {good : α → Prop} {f : β → α} (g : α → β) (hg : ∀ x, f (g x) = x) (h : Opens P t d good) : Opens P t (Kd.iso d f) (fun y => good (f y)) := by
 intro H enc w fuel cs x hx hw
 obtain ⟨v, k, q⟩ := h enc w fuel cs x hx hw
 exact ⟨g v, by show d.K w (f (g v)) cs; rw [hg]; exact k, by show good (f (g v)); rw [hg]; exact q⟩
theorem open_arg {H : Type} {enc : TypeId × Value → H} {w : World} {t : TypeId} {d : Kd α} {good : α → Prop} {v : Value} {dd : DataW H} {ps : List MemPlace} (ho : Opens P t d good) (h : DataW.Trod enc P w 0 (fun _ => true) true t v dd ps)
   (hw : (dd.weights P t).all (· ≤ reachBytes) = true) : ∃ x, d.K w x v.cells.toList ∧ good x := by
 obtain ⟨fuel, hf⟩ := h
 exact ho enc w fuel _ _ hf hw
theorem weight_at {H : Type} {ts : List TypeId} {ds : List (DataW H)} (h : (DataW.weightsEach P ts ds).all (· ≤ reachBytes) = true) : ∀ {j : Nat} {t : TypeId} {d : DataW H}, ts[j]? = some t → ds[j]? = some d → (d.weights P t).all (· ≤ reachBytes) = true := by
 induction ts generalizing ds with
 | nil => intro j t d ht; simp at ht
 | cons a ts ih =>
   cases ds with
   | nil => intro j t d _ hd; simp at hd
   | cons b ds =>
     unfold DataW.weightsEach at h
     rw [List.all_append, Bool.and_eq_true] at h
     intro j t d ht hd
     cases j with
     | zero =>
       obtain rfl : a = t := by simpa using ht
       obtain rfl : b = d := by simpa using hd
       exact h.1
     | succ j => exact ih h.2 (by simpa using ht) (by simpa using hd)
theorem of_slice {w : World} {e : Nat} {d : Kd α} {xs : List α} {A : Option Addr} {n c : Nat} (h : (Kd.slice e d).K w xs [.slice A n c]) : n = xs.length ∧ xs.length ≤ c ∧ d.C w A xs.length xs := by
 obtain ⟨A', c', he, hl, hc⟩ := h
 simp only [List.cons.injEq, Value.slice.injEq, and_true] at he
 obtain ⟨rfl, rfl, rfl⟩ := he
 exact ⟨rfl, hl, hc⟩
end
end Go.Proofs.Yteeihjpnhjnknaa.Open
namespace Go.Proofs.Yteeihjpnhjnknaa.GAll
open Go.RowKit Go.Proofs.YteeihjpnhjnknaaW.PrintWords Go.Proofs.YteeihjpnhjnknaaW.PrintLast Go.Proofs.YteeihjpnhjnknaaW.PrintMore
attribute [local go_sem] max2_int min2_int max_two min_two max_three min_three max_four min_four   -- for this text's walks alone
set_option linter.unusedVariables false
set_option linter.unusedSimpArgs false
def tangramlaw21_path.f  : Option (Int × (List (S89)) × (List (List Int))) := some (3, (([(⟨0, 1⟩ : S89), (⟨1, 2⟩ : S89)] : List (S89))), (([(([0] : List Int)), (([1, 2] : List Int)), (([3] : List Int))] : List (List Int))))
set_option maxHeartbeats 8000000 in
set_option maxRecDepth 100000 in
theorem tangramlaw21_path.calls  (r1 : Int) (r2 : List (S89)) (r3 : List (List Int)) (w : World) (h : tangramlaw21_path.f  = some (r1, r2, r3)) :
   Calls Try.prog 34 #[] w fun e w' => ∃ v1_ v2_ : Value, e = .returned (.tuple #[.agg #[.int .i64 r1, v1_], v2_]) ∧ Kd.R k89 89 w' w.heap.size (fun k_ => (w.heap.size ≤ k_)) v1_ r2 ∧ Kd.N (Kd.slice 3 (Kd.int .i64)) 32 w' w.heap.size (fun k_ => (w.heap.size ≤ k_) ∧ some k_ ≠ (v1_ : Value).ownBlock) v2_ r3 ∧ Below w.heap.size w w' := by
 have hu24 := Try.underlying24
 have hu89 := Try.underlying89
 have HB := Aside0.mk (Below.refl w.heap.size w)
 have H : (some (3, (([(⟨0, 1⟩ : S89), (⟨1, 2⟩ : S89)] : List (S89))), (([(([0] : List Int)), (([1, 2] : List Int)), (([3] : List Int))] : List (List Int))))) = some (r1, r2, r3) := h
 clear h
 obtain ⟨y134, hy134⟩ : ∃ y_ : List (S89), y_ = (([(⟨0, 1⟩ : S89), (⟨1, 2⟩ : S89)] : List (S89))) := ⟨_, rfl⟩
 replace H : (some (3, y134, (([(([0] : List Int)), (([1, 2] : List Int)), (([3] : List Int))] : List (List Int))))) = some (r1, r2, r3) := by first | (rw [hy134]; with_reducible exact H) | (have H2_ := (Option.bind_some _ _).symm.trans H; rw [hy134]; with_reducible exact H2_) | (have H2_ := (Option.bind_some _ _).symm.trans H; with_reducible exact H2_) | with_reducible exact H | (rw [hy134]; exact H) | exact H
 have Ny134 := Aside0.mk hy134
 clear hy134
 obtain ⟨y137, hy137⟩ : ∃ y_ : List Int, y_ = (([0] : List Int)) := ⟨_, rfl⟩
 replace H : (some (3, y134, (([y137, (([1, 2] : List Int)), (([3] : List Int))] : List (List Int))))) = some (r1, r2, r3) := by first | (rw [hy137]; with_reducible exact H) | (have H2_ := (Option.bind_some _ _).symm.trans H; rw [hy137]; with_reducible exact H2_) | (have H2_ := (Option.bind_some _ _).symm.trans H; with_reducible exact H2_) | with_reducible exact H | (rw [hy137]; exact H) | exact H
 have Ny137 := Aside0.mk hy137
 clear hy137
 obtain ⟨y140, hy140⟩ : ∃ y_ : List Int, y_ = (([1, 2] : List Int)) := ⟨_, rfl⟩
 replace H : (some (3, y134, (([y137, y140, (([3] : List Int))] : List (List Int))))) = some (r1, r2, r3) := by first | (rw [hy140]; with_reducible exact H) | (have H2_ := (Option.bind_some _ _).symm.trans H; rw [hy140]; with_reducible exact H2_) | (have H2_ := (Option.bind_some _ _).symm.trans H; with_reducible exact H2_) | with_reducible exact H | (rw [hy140]; exact H) | exact H
 have Ny140 := Aside0.mk hy140
 clear hy140
 obtain ⟨y143, hy143⟩ : ∃ y_ : List Int, y_ = (([3] : List Int)) := ⟨_, rfl⟩
 replace H : (some (3, y134, (([y137, y140, y143] : List (List Int))))) = some (r1, r2, r3) := by first | (rw [hy143]; with_reducible exact H) | (have H2_ := (Option.bind_some _ _).symm.trans H; rw [hy143]; with_reducible exact H2_) | (have H2_ := (Option.bind_some _ _).symm.trans H; with_reducible exact H2_) | with_reducible exact H | (rw [hy143]; exact H) | exact H
 have Ny143 := Aside0.mk hy143
 clear hy143
 obtain ⟨y146, hy146⟩ : ∃ y_ : List (List Int), y_ = (([y137, y140, y143] : List (List Int))) := ⟨_, rfl⟩
 replace H : (some (3, y134, y146)) = some (r1, r2, r3) := by first | (rw [hy146]; with_reducible exact H) | (have H2_ := (Option.bind_some _ _).symm.trans H; rw [hy146]; with_reducible exact H2_) | (have H2_ := (Option.bind_some _ _).symm.trans H; with_reducible exact H2_) | with_reducible exact H | (rw [hy146]; exact H) | exact H
 have Ny146 := Aside0.mk hy146
 clear hy146
 simp only [Option.some.injEq, Prod.mk.injEq] at H
 obtain ⟨rfl, rfl, rfl⟩ := H
 go_enter Try.func34, Try.ntmps34
 go_wp2_with (first | ((with_reducible refine gate_dst (N := 0) rfl ?_); refine box_event ?hg (N := 0) ?hd (cs := #[.int .i64 0, .slice none 0 0]) (t := 24) ?hr ?_; (case hd => rfl); (case hg => rfl); (case hr => first | (go_simp; done) | (go_simp; rfl)); intro gb133 hg w1 hbox hb; have n0_ := Aside0.mk (below_step (by repeat (first | (with_reducible first | exact HB.out | apply below_alloc | apply pw_below_drewN | apply below_drew1) | exact HB.out)) hb); have n1_ := Aside0.mk (hbox); have n2_ := Aside0.mk ((by rw [hg]; exact (below_size (by repeat (first | (with_reducible first | exact HB.out | apply below_alloc | apply pw_below_drewN | apply below_drew1) | exact HB.out))) : w.heap.size ≤ gb133)); have n3_ := Aside0.mk ((by rw [hg]; exact (below_size (by repeat (first | (with_reducible first | exact HB.out | apply below_alloc | apply pw_below_drewN | apply below_drew1) | exact HB.out))) : w.heap.size ≤ gb133)); clear HB; have HB := n0_; have BK133 := n1_; have GW133 := n2_; have GE133 := n3_; clear n0_ n1_ n2_ n3_; clear hb hbox hg) | ((with_reducible refine gate_dst (N := 4) rfl ?_); refine Kd.R_lit k89 _ 89 ?hg (N := 4) ?hd (xs := ([(⟨0, 1⟩ : S89), (⟨1, 2⟩ : S89)] : List (S89))) (inner := [.int .i64 0, .int .i64 1, .int .i64 1, .int .i64 2]) (ok := fun _ => True) (okp := fun _ => True) ?hr ?hp (fun _ hk => hk) trivial (Below.refl _ _) (Nat.le_refl _) (by simp) ?_; (case hd => rfl); (case hg => rfl); (case hr => first | (go_simp; done) | (go_simp; rfl)); (case hp => exact (Reps.c2 (show Kd.M k89 _ _ _ (⟨0, 1⟩ : S89) [.int .i64 0, .int .i64 1] from (k89_mkM _ _ _ (⟨0, 1⟩ : S89) )) (Reps.c2 (show Kd.M k89 _ _ _ (⟨1, 2⟩ : S89) [.int .i64 1, .int .i64 2] from (k89_mkM _ _ _ (⟨1, 2⟩ : S89) )) (Reps.none _ _)))); intro v135 w2 ho3 hb hg_ hnew_; clear hg_ hnew_; (first | rw [← Ny134.out] at ho3 | (simp only [Int.reduceToNat] at ho3; rw [← Ny134.out] at ho3)); have n0_ := Aside0.mk (Kd.R_lower (Kd.R_newM (M := fun k_ => (w.heap.size ≤ k_)) ho3 (below_size (by repeat (first | (with_reducible first | exact HB.out | apply below_alloc | apply pw_below_drewN | apply below_drew1 | refine below_set ?_ GE133.out) | exact HB.out))) (fun k_ h_ => h_)) (below_size (by repeat (first | (with_reducible first | exact HB.out | apply below_alloc | apply pw_below_drewN | apply below_drew1 | refine below_set ?_ GE133.out) | exact HB.out)))); have n1_ := Aside0.mk (blk_below (g := gb133) (o := .cells #[.int .i64 0, .slice none 0 0] 24 (0, 0)) (by (with_reducible repeat (first | refine blk_drewN ?_ _ | refine blk_drew ?_ | refine blk_alloc ?_ _)); exact BK133.out) hb); have n2_ := Aside0.mk (below_step (by repeat (first | (with_reducible first | exact HB.out | apply below_alloc | apply pw_below_drewN | apply below_drew1 | refine below_set ?_ GE133.out) | exact HB.out)) hb); clear BK133; clear HB; have HO136 := n0_; have BK133 := n1_; have HB := n2_; clear n0_ n1_ n2_; clear hb ho3; obtain ⟨Ao4, co4, eo4⟩ := Kd.R_slice HO136.out; subst eo4) | ((with_reducible refine gate_dst (N := 6) rfl ?_); refine Kd.R_lit (Kd.int .i64) _ 3 ?hg (N := 6) ?hd (xs := ([0] : List Int)) (inner := [.int .i64 0]) (ok := fun _ => True) (okp := fun _ => True) ?hr ?hp (fun _ hk => hk) trivial (Below.refl _ _) (Nat.le_refl _) (by simp) ?_; (case hd => rfl); (case hg => rfl); (case hr => first | (go_simp; done) | (go_simp; rfl)); (case hp => exact (Reps.one (show Kd.M (Kd.int .i64) _ _ _ 0 [.int .i64 0] from rfl) (Reps.none _ _))); intro v138 w5 ho6 hb hg_ hnew_; clear hg_ hnew_; (first | rw [← Ny137.out] at ho6 | (simp only [Int.reduceToNat] at ho6; rw [← Ny137.out] at ho6)); have n0_ := Aside0.mk (Kd.R_below (by (with_reducible repeat (first | apply Kd.R_alloc | apply Kd.R_drewN | apply Kd.R_drew)); exact HO136.out) hb); have n1_ := Aside0.mk (Kd.R_lower (Kd.R_newM (M := fun k_ => (w.heap.size ≤ k_)) ho6 (below_size (by repeat (first | (with_reducible first | exact HB.out | apply below_alloc | apply pw_below_drewN | apply below_drew1 | refine below_set ?_ GE133.out) | exact HB.out))) (fun k_ h_ => h_)) (below_size (by repeat (first | (with_reducible first | exact HB.out | apply below_alloc | apply pw_below_drewN | apply below_drew1 | refine below_set ?_ GE133.out) | exact HB.out)))); have n2_ := Aside0.mk (blk_below (g := gb133) (o := .cells #[.int .i64 0, .slice none 0 0] 24 (0, 0)) (by (with_reducible repeat (first | refine blk_drewN ?_ _ | refine blk_drew ?_ | refine blk_alloc ?_ _)); exact BK133.out) hb); have n3_ := Aside0.mk (below_step (by repeat (first | (with_reducible first | exact HB.out | apply below_alloc | apply pw_below_drewN | apply below_drew1 | refine below_set ?_ GE133.out) | exact HB.out)) hb); clear HO136; clear BK133; clear HB; have HO136 := n0_; have HO139 := n1_; have BK133 := n2_; have HB := n3_; clear n0_ n1_ n2_ n3_; clear hb ho6) | ((with_reducible refine gate_dst (N := 7) rfl ?_); refine Kd.R_lit (Kd.int .i64) _ 3 ?hg (N := 7) ?hd (xs := ([1, 2] : List Int)) (inner := [.int .i64 1, .int .i64 2]) (ok := fun _ => True) (okp := fun _ => True) ?hr ?hp (fun _ hk => hk) trivial (Below.refl _ _) (Nat.le_refl _) (by simp) ?_; (case hd => rfl); (case hg => rfl); (case hr => first | (go_simp; done) | (go_simp; rfl)); (case hp => exact (Reps.one (show Kd.M (Kd.int .i64) _ _ _ 1 [.int .i64 1] from rfl) (Reps.one (show Kd.M (Kd.int .i64) _ _ _ 2 [.int .i64 2] from rfl) (Reps.none _ _)))); intro v141 w7 ho8 hb hg_ hnew_; clear hg_ hnew_; (first | rw [← Ny140.out] at ho8 | (simp only [Int.reduceToNat] at ho8; rw [← Ny140.out] at ho8)); have n0_ := Aside0.mk (Kd.R_below (by (with_reducible repeat (first | apply Kd.R_alloc | apply Kd.R_drewN | apply Kd.R_drew)); exact HO136.out) hb); have n1_ := Aside0.mk (Kd.R_elder' (by (with_reducible repeat (first | apply Kd.R_alloc | apply Kd.R_drewN | apply Kd.R_drew)); exact HO139.out) (Kd.R_base ho8) hb); have n2_ := Aside0.mk (Kd.R_lower (Kd.R_new' (Kd.R_newM (M := fun k_ => (w.heap.size ≤ k_)) ho8 (below_size (by repeat (first | (with_reducible first | exact HB.out | apply below_alloc | apply pw_below_drewN | apply below_drew1 | refine below_set ?_ GE133.out) | exact HB.out))) (fun k_ h_ => h_)) (Kd.R_lt (by (with_reducible repeat (first | apply Kd.R_alloc | apply Kd.R_drewN | apply Kd.R_drew)); exact HO139.out))) (below_size (by repeat (first | (with_reducible first | exact HB.out | apply below_alloc | apply pw_below_drewN | apply below_drew1 | refine below_set ?_ GE133.out) | exact HB.out)))); have n3_ := Aside0.mk (blk_below (g := gb133) (o := .cells #[.int .i64 0, .slice none 0 0] 24 (0, 0)) (by (with_reducible repeat (first | refine blk_drewN ?_ _ | refine blk_drew ?_ | refine blk_alloc ?_ _)); exact BK133.out) hb); have n4_ := Aside0.mk (below_step (by repeat (first | (with_reducible first | exact HB.out | apply below_alloc | apply pw_below_drewN | apply below_drew1 | refine below_set ?_ GE133.out) | exact HB.out)) hb); clear HO136; clear HO139; clear BK133; clear HB; have HO136 := n0_; have HO139 := n1_; have HO142 := n2_; have BK133 := n3_; have HB := n4_; clear n0_ n1_ n2_ n3_ n4_; clear hb ho8) | ((with_reducible refine gate_dst (N := 8) rfl ?_); refine Kd.R_lit (Kd.int .i64) _ 3 ?hg (N := 8) ?hd (xs := ([3] : List Int)) (inner := [.int .i64 3]) (ok := fun _ => True) (okp := fun _ => True) ?hr ?hp (fun _ hk => hk) trivial (Below.refl _ _) (Nat.le_refl _) (by simp) ?_; (case hd => rfl); (case hg => rfl); (case hr => first | (go_simp; done) | (go_simp; rfl)); (case hp => exact (Reps.one (show Kd.M (Kd.int .i64) _ _ _ 3 [.int .i64 3] from rfl) (Reps.none _ _))); intro v144 w9 ho10 hb hg_ hnew_; clear hg_ hnew_; (first | rw [← Ny143.out] at ho10 | (simp only [Int.reduceToNat] at ho10; rw [← Ny143.out] at ho10)); have n0_ := Aside0.mk (Kd.R_below (by (with_reducible repeat (first | apply Kd.R_alloc | apply Kd.R_drewN | apply Kd.R_drew)); exact HO136.out) hb); have n1_ := Aside0.mk (Kd.R_elder' (by (with_reducible repeat (first | apply Kd.R_alloc | apply Kd.R_drewN | apply Kd.R_drew)); exact HO139.out) (Kd.R_base ho10) hb); have n2_ := Aside0.mk (Kd.R_elder' (by (with_reducible repeat (first | apply Kd.R_alloc | apply Kd.R_drewN | apply Kd.R_drew)); exact HO142.out) (Kd.R_base ho10) hb); have n3_ := Aside0.mk (Kd.R_lower (Kd.R_new' (Kd.R_new' (Kd.R_newM (M := fun k_ => (w.heap.size ≤ k_)) ho10 (below_size (by repeat (first | (with_reducible first | exact HB.out | apply below_alloc | apply pw_below_drewN | apply below_drew1 | refine below_set ?_ GE133.out) | exact HB.out))) (fun k_ h_ => h_)) (Kd.R_lt (by (with_reducible repeat (first | apply Kd.R_alloc | apply Kd.R_drewN | apply Kd.R_drew)); exact HO139.out))) (Kd.R_lt (by (with_reducible repeat (first | apply Kd.R_alloc | apply Kd.R_drewN | apply Kd.R_drew)); exact HO142.out))) (below_size (by repeat (first | (with_reducible first | exact HB.out | apply below_alloc | apply pw_below_drewN | apply below_drew1 | refine below_set ?_ GE133.out) | exact HB.out)))); have n4_ := Aside0.mk (blk_below (g := gb133) (o := .cells #[.int .i64 0, .slice none 0 0] 24 (0, 0)) (by (with_reducible repeat (first | refine blk_drewN ?_ _ | refine blk_drew ?_ | refine blk_alloc ?_ _)); exact BK133.out) hb); have n5_ := Aside0.mk (below_step (by repeat (first | (with_reducible first | exact HB.out | apply below_alloc | apply pw_below_drewN | apply below_drew1 | refine below_set ?_ GE133.out) | exact HB.out)) hb); clear HO136; clear HO139; clear HO142; clear BK133; clear HB; have HO136 := n0_; have HO139 := n1_; have HO142 := n2_; have HO145 := n3_; have BK133 := n4_; have HB := n5_; clear n0_ n1_ n2_ n3_ n4_ n5_; clear hb ho10; obtain ⟨Ao11, co11, eo11⟩ := Kd.R_slice HO139.out; subst eo11; obtain ⟨Ao12, co12, eo12⟩ := Kd.R_slice HO142.out; subst eo12; obtain ⟨Ao13, co13, eo13⟩ := Kd.R_slice HO145.out; subst eo13) | ((with_reducible refine gate_dst (N := 9) rfl ?_); refine Kd.N_lit (Kd.slice 3 (Kd.int .i64)) _ 32 ?hg (N' := 9) ?hd (xs := ([y137, y140, y143] : List (List Int))) (inner := [.slice Ao11 y137.length co11, .slice Ao12 y140.length co12, .slice Ao13 y143.length co13]) (ok := (fun k_ => (w.heap.size ≤ k_) ∧ some k_ ≠ (.slice Ao4 y134.length co4 : Value).ownBlock ∧ k_ ≠ gb133)) (okp := (fun k_ => (w.heap.size ≤ k_) ∧ some k_ ≠ (.slice Ao4 y134.length co4 : Value).ownBlock ∧ k_ ≠ gb133)) ?hr ?hp (fun _ hk => hk) ((show ∀ k_, w9.heap.size ≤ k_ → (fun k_ => (w.heap.size ≤ k_) ∧ some k_ ≠ (.slice Ao4 y134.length co4 : Value).ownBlock ∧ k_ ≠ gb133) k_ from fun k_ hk => ⟨(Nat.le_trans (below_size (by repeat (first | (with_reducible first | exact HB.out | apply below_alloc | apply pw_below_drewN | apply below_drew1 | refine below_set ?_ GE133.out) | exact HB.out))) hk), Kd.fresh' (Kd.R_lt (by (with_reducible repeat (first | apply Kd.R_alloc | apply Kd.R_drewN | apply Kd.R_drew)); exact HO136.out)) k_ hk, Kd.freshB (g := gb133) (o := .cells #[.int .i64 0, .slice none 0 0] 24 (0, 0)) (by (with_reducible repeat (first | refine blk_drewN ?_ _ | refine blk_drew ?_ | refine blk_alloc ?_ _)); exact BK133.out) k_ hk⟩) _ (Nat.le_refl _)) (Below.refl _ _) (Nat.le_refl _) (by simp) ?_; (case hd => rfl); (case hg => rfl); (case hr => first | (go_simp; done) | (go_simp; rfl)); (case hp => exact (Reps.one (show Kd.FK (Kd.slice 3 (Kd.int .i64)) _ _ y137 [.slice Ao11 y137.length co11] from (Kd.FK_slice_mk (Kd.R_reads' (Kd.R_mono (ok' := (fun k_ => (w.heap.size ≤ k_) ∧ some k_ ≠ (.slice Ao4 y134.length co4 : Value).ownBlock ∧ k_ ≠ gb133)) (Kd.R_types (Kd.R_apart' (HO139.out) (Kd.R_typed HO136.out) (by decide)) BK133.out (by decide)) (fun k_ hk => ⟨hk.1.1.1.1.1, ⟨hk.1.2, hk.2⟩⟩))).2.1 (Kd.R_F (Kd.R_mono (ok' := (fun k_ => (w.heap.size ≤ k_) ∧ some k_ ≠ (.slice Ao4 y134.length co4 : Value).ownBlock ∧ k_ ≠ gb133)) (Kd.R_types (Kd.R_apart' (HO139.out) (Kd.R_typed HO136.out) (by decide)) BK133.out (by decide)) (fun k_ hk => ⟨hk.1.1.1.1.1, ⟨hk.1.2, hk.2⟩⟩))))) (Reps.one (show Kd.FK (Kd.slice 3 (Kd.int .i64)) _ _ y140 [.slice Ao12 y140.length co12] from (Kd.FK_slice_mk (Kd.R_reads' (Kd.R_mono (ok' := (fun k_ => (w.heap.size ≤ k_) ∧ some k_ ≠ (.slice Ao4 y134.length co4 : Value).ownBlock ∧ k_ ≠ gb133)) (Kd.R_types (Kd.R_apart' (HO142.out) (Kd.R_typed HO136.out) (by decide)) BK133.out (by decide)) (fun k_ hk => ⟨hk.1.1.1.1.1, ⟨hk.1.2, hk.2⟩⟩))).2.1 (Kd.R_F (Kd.R_mono (ok' := (fun k_ => (w.heap.size ≤ k_) ∧ some k_ ≠ (.slice Ao4 y134.length co4 : Value).ownBlock ∧ k_ ≠ gb133)) (Kd.R_types (Kd.R_apart' (HO142.out) (Kd.R_typed HO136.out) (by decide)) BK133.out (by decide)) (fun k_ hk => ⟨hk.1.1.1.1.1, ⟨hk.1.2, hk.2⟩⟩))))) (Reps.one (show Kd.FK (Kd.slice 3 (Kd.int .i64)) _ _ y143 [.slice Ao13 y143.length co13] from (Kd.FK_slice_mk (Kd.R_reads' (Kd.R_mono (ok' := (fun k_ => (w.heap.size ≤ k_) ∧ some k_ ≠ (.slice Ao4 y134.length co4 : Value).ownBlock ∧ k_ ≠ gb133)) (Kd.R_types (Kd.R_apart' (HO145.out) (Kd.R_typed HO136.out) (by decide)) BK133.out (by decide)) (fun k_ hk => ⟨hk.1.1.1.1.1, ⟨hk.1.2, hk.2⟩⟩))).2.1 (Kd.R_F (Kd.R_mono (ok' := (fun k_ => (w.heap.size ≤ k_) ∧ some k_ ≠ (.slice Ao4 y134.length co4 : Value).ownBlock ∧ k_ ≠ gb133)) (Kd.R_types (Kd.R_apart' (HO145.out) (Kd.R_typed HO136.out) (by decide)) BK133.out (by decide)) (fun k_ hk => ⟨hk.1.1.1.1.1, ⟨hk.1.2, hk.2⟩⟩))))) (Reps.none _ _))))); intro v147 w14 ho15 hb hg_ hnew_; clear hg_ hnew_; (first | rw [← Ny146.out] at ho15 | (simp only [Int.reduceToNat] at ho15; rw [← Ny146.out] at ho15)); have n0_ := Aside0.mk (Kd.R_below (by (with_reducible repeat (first | apply Kd.R_alloc | apply Kd.R_drewN | apply Kd.R_drew)); exact HO136.out) hb); have n1_ := Aside0.mk (Kd.N_lower ho15 (below_size (by repeat (first | (with_reducible first | exact HB.out | apply below_alloc | apply pw_below_drewN | apply below_drew1 | refine below_set ?_ GE133.out) | exact HB.out)))); have n2_ := Aside0.mk (blk_below (g := gb133) (o := .cells #[.int .i64 0, .slice none 0 0] 24 (0, 0)) (by (with_reducible repeat (first | refine blk_drewN ?_ _ | refine blk_drew ?_ | refine blk_alloc ?_ _)); exact BK133.out) hb); have n3_ := Aside0.mk (below_step (by repeat (first | (with_reducible first | exact HB.out | apply below_alloc | apply pw_below_drewN | apply below_drew1 | refine below_set ?_ GE133.out) | exact HB.out)) hb); clear HO136; clear BK133; clear HB; clear HO139; clear HO142; clear HO145; have HO136 := n0_; have HO148 := n1_; have BK133 := n2_; have HB := n3_; clear n0_ n1_ n2_ n3_; clear hb ho15; have hcz16_0 : w14.cell? ⟨gb133, 0, none⟩ = some (.int .i64 0) := (blk_cell BK133.out 0).trans rfl; have hcz16_1 : w14.cell? ⟨gb133, 1, none⟩ = some (.slice none 0 0) := (blk_cell BK133.out 1).trans rfl; have hfz16_0 := blk_frozen BK133.out 0; have hfz16_1 := blk_frozen BK133.out 1))
 refine bodyPost_ret (results_ct rfl _ _ gb133 24 #[.int .i64 3, .slice Ao4 y134.length co4] (0, 0) _ rfl (by (with_reducible repeat (first | refine blk_drewN ?_ _ | refine blk_drew ?_ | refine blk_alloc ?_ _)); refine blk_put (cs := #[.int .i64 3, .slice none 0 0]) ?_ 1 _ rfl; (with_reducible repeat (first | refine blk_drewN ?_ _ | refine blk_drew ?_ | refine blk_alloc ?_ _)); refine blk_put (cs := #[.int .i64 0, .slice none 0 0]) ?_ 0 _ rfl; (with_reducible repeat (first | refine blk_drewN ?_ _ | refine blk_drew ?_ | refine blk_alloc ?_ _)); exact BK133.out) Try.underlying24 rfl (by kernel_rfl)) rfl ?_
 exact ⟨_, _, by first | rfl | (simp [errW_none, errW_some] <;> rfl) | (simp [*, errW_none, errW_some] <;> rfl), by (with_reducible repeat (first | apply Kd.R_alloc | apply Kd.R_drewN | apply Kd.R_drew)); exact Kd.R_mono (Kd.R_far (p := ⟨gb133, 1, none⟩) (Kd.R_far (p := ⟨gb133, 0, none⟩) (Kd.R_types HO136.out BK133.out (by decide)) (fun _ hk => hk.2) (.int .i64 3)) (fun _ hk => hk.2) (.slice Ao4 y134.length co4)) (fun _ hk => hk.1.1), by (with_reducible repeat (first | apply Kd.N_alloc | apply Kd.N_drewN | apply Kd.N_drew)); exact Kd.N_mono (Kd.N_far (p := ⟨gb133, 1, none⟩) (Kd.N_far (p := ⟨gb133, 0, none⟩) (Kd.N_mono HO148.out (fun k_ hk => (⟨hk, hk.2.2⟩ : _ ∧ k_ ≠ gb133))) (fun _ hk => hk.2) (.int .i64 3)) (fun _ hk => hk.2) (.slice Ao4 y134.length co4)) (fun _ hk => ⟨hk.1.1, hk.1.2.1⟩), by repeat (first | (with_reducible first | exact HB.out | apply below_alloc | apply pw_below_drewN | apply below_drew1 | refine below_set ?_ GE133.out) | exact HB.out)⟩
end Go.Proofs.Yteeihjpnhjnknaa.GAll
