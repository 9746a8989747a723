/- DERIVED. Texts of this seat, one behind the other: lemmas and walks that the statement FacesOwn needs. No condition. -/
import Derived.Test.YtmikcfddipldnaaCFacesOwnd
import Derived.Test.YtmikcfddipldnaaCFacesOwnc
import Derived.Test.YtmikcfddipldnaaCFacesOwne
namespace Go.Proofs.Ytmikcfddipldnaa.GAll
open Go.RowKit Go.Proofs.YtmikcfddipldnaaW.PrintWords Go.Proofs.YtmikcfddipldnaaW.PrintLast Go.Proofs.YtmikcfddipldnaaW.PrintMore
attribute [local go_sem] max2_int min2_int max_two min_two max_three min_three max_four min_four   -- for this text's walks alone
set_option linter.unusedVariables false
set_option linter.unusedSimpArgs false
mutual
def tangramref03_Equal.j0 : Nat → Bool → Int → List (S56) → Int → List (S56) → Option (Bool)
 | 0, _, _, _, _, _ => none
 | k + 1, x19, x262000, x262001, x263000, x263001 => if x19 = true then (some false) else (tangramref03_Equal.l0 k 0 x262000 x262001 x263000 x263001)
def tangramref03_Equal.l0 : Nat → Int → Int → List (S56) → Int → List (S56) → Option (Bool)
 | 0, _, _, _, _, _ => none
 | k + 1, x5, x262000, x262001, x263000, x263001 => if x5 < (x262001.length : Int) then (if 0 ≤ x5 then (if x5 < (x263001.length : Int) then (if ((rd_T56 x262001 x5).f0) = ((rd_T56 x263001 x5).f0) then (if ((rd_T56 x262001 x5).f1) = ((rd_T56 x263001 x5).f1) then (tangramref03_Equal.l0 k (wrap64 (x5 + 1)) x262000 x262001 x263000 x263001) else (some false)) else (some false)) else (none)) else (none)) else (some true)
end
def tangramref03_Equal.f (k : Nat) (a0_0 : Int) (l0_1 : List (S56)) (a1_0 : Int) (l1_1 : List (S56)) : Option (Bool) := if a0_0 = a1_0 then (tangramref03_Equal.j0 k ((l0_1.length : Int) != (l1_1.length : Int)) a0_0 l0_1 a1_0 l1_1) else (tangramref03_Equal.j0 k true a0_0 l0_1 a1_0 l1_1)
theorem tangramref03_Equal.mono_l : ∀ k, (∀ y0 y1 y2 y3 y4, LeO (tangramref03_Equal.j0 k y0 y1 y2 y3 y4) (tangramref03_Equal.j0 (k + 1) y0 y1 y2 y3 y4)) ∧ (∀ y0 y1 y2 y3 y4, LeO (tangramref03_Equal.l0 k y0 y1 y2 y3 y4) (tangramref03_Equal.l0 (k + 1) y0 y1 y2 y3 y4))
 | 0 => ⟨fun _ _ _ _ _ r h => by simp [tangramref03_Equal.j0] at h, fun _ _ _ _ _ r h => by simp [tangramref03_Equal.l0] at h⟩
 | k + 1 => by
   obtain ⟨ih0, ih1⟩ := tangramref03_Equal.mono_l k
   refine ⟨?_, ?_⟩
   · intro y0 y1 y2 y3 y4
     unfold tangramref03_Equal.j0
     repeat' first
     | (with_reducible exact ih0 _ _ _ _ _)
     | (with_reducible exact ih1 _ _ _ _ _)
     | (with_reducible exact LeO.refl _)
     | (with_reducible exact LeO.none _)
     | (with_reducible refine LeO.ite ?_ ?_)
     | (with_reducible refine LeO.bind ?_ (fun _ => ?_))
     | exact ih0 _ _ _ _ _
     | exact ih1 _ _ _ _ _
     | exact LeO.none _
     | refine LeO.ite ?_ ?_
     | refine LeO.bind ?_ (fun _ => ?_)
   · intro y0 y1 y2 y3 y4
     unfold tangramref03_Equal.l0
     repeat' first
     | (with_reducible exact ih0 _ _ _ _ _)
     | (with_reducible exact ih1 _ _ _ _ _)
     | (with_reducible exact LeO.refl _)
     | (with_reducible exact LeO.none _)
     | (with_reducible refine LeO.ite ?_ ?_)
     | (with_reducible refine LeO.bind ?_ (fun _ => ?_))
     | exact ih0 _ _ _ _ _
     | exact ih1 _ _ _ _ _
     | exact LeO.none _
     | refine LeO.ite ?_ ?_
     | refine LeO.bind ?_ (fun _ => ?_)
theorem tangramref03_Equal.mono : ∀ a0 a1 a2 a3 k, LeO (tangramref03_Equal.f k a0 a1 a2 a3) (tangramref03_Equal.f (k + 1) a0 a1 a2 a3) := by
 intro a0 a1 a2 a3 k
 obtain ⟨ih0, ih1⟩ := tangramref03_Equal.mono_l k
 unfold tangramref03_Equal.f
 repeat' first
     | (with_reducible exact ih0 _ _ _ _ _)
     | (with_reducible exact ih1 _ _ _ _ _)
     | (with_reducible exact LeO.refl _)
     | (with_reducible exact LeO.none _)
     | (with_reducible refine LeO.ite ?_ ?_)
     | (with_reducible refine LeO.bind ?_ (fun _ => ?_))
     | exact ih0 _ _ _ _ _
     | exact ih1 _ _ _ _ _
     | exact LeO.none _
     | refine LeO.ite ?_ ?_
     | refine LeO.bind ?_ (fun _ => ?_)
set_option maxHeartbeats 8000000 in
set_option maxRecDepth 100000 in
theorem tangramref03_Equal.calls (k : Nat) (a0_0 : Int) (A0_1 : Option Addr) (c0_1 : Nat) (l0_1 : List (S56)) (a1_0 : Int) (A1_1 : Option Addr) (c1_1 : Nat) (l1_1 : List (S56)) (r : Bool) (w : World) (hr0_1 : Kd.C k56 w A0_1 l0_1.length l0_1) (hc0_1 : l0_1.length ≤ c0_1) (hr1_1 : Kd.C k56 w A1_1 l1_1.length l1_1) (hc1_1 : l1_1.length ≤ c1_1) (h : tangramref03_Equal.f k a0_0 l0_1 a1_0 l1_1 = some r) :
   Calls Try.prog 23 #[.agg #[.int .i64 a0_0, .slice A0_1 l0_1.length c0_1], .agg #[.int .i64 a1_0, .slice A1_1 l1_1.length c1_1]] w fun e w' => e = .returned (.bool r) ∧ Below w.heap.size w w' := by
 have hu24 := Try.underlying24
 have HR0_1 := Aside0.mk hr0_1
 have HC0_1 := Aside0.mk hc0_1
 clear hr0_1 hc0_1
 have HR1_1 := Aside0.mk hr1_1
 have HC1_1 := Aside0.mk hc1_1
 clear hr1_1 hc1_1
 have HB := Aside0.mk (Below.refl w.heap.size w)
 have H : (if a0_0 = a1_0 then (tangramref03_Equal.j0 k ((l0_1.length : Int) != (l1_1.length : Int)) a0_0 l0_1 a1_0 l1_1) else (tangramref03_Equal.j0 k true a0_0 l0_1 a1_0 l1_1)) = some r := h
 clear h
 have HC3 := Aside0.mk H
 clear H
 go_enter Try.func23, Try.ntmps23
 go_upto_region 1 with (first | ((with_reducible refine gate_dst (N := 2) rfl ?_); (try (refine gate_guard (by rfl) ?_; dsimp only)); refine box_event ?hg (N := 2) ?hd (cs := #[.int .i64 a0_0, .slice A0_1 l0_1.length c0_1]) (t := 24) ?hr ?_; (case hd => rfl); (case hg => rfl); (case hr => first | (go_simp; done) | (go_simp; rfl)); intro gb261 hg w4 hbox hb; have n0_ := Aside0.mk (below_step (by repeat (first | (with_reducible first | exact HB.out | apply below_alloc | apply pw_below_drewN | apply below_drew1) | exact HB.out)) hb); have n1_ := Aside0.mk (hbox); have n2_ := Aside0.mk ((by rw [hg]; exact (below_size (by repeat (first | (with_reducible first | exact HB.out | apply below_alloc | apply pw_below_drewN | apply below_drew1) | exact HB.out))) : w.heap.size ≤ gb261)); have n3_ := Aside0.mk ((by rw [hg]; exact (below_size (by repeat (first | (with_reducible first | exact HB.out | apply below_alloc | apply pw_below_drewN | apply below_drew1) | exact HB.out))) : w.heap.size ≤ gb261)); clear HB; have HB := n0_; have BK261 := n1_; have GW261 := n2_; have GE261 := n3_; clear n0_ n1_ n2_ n3_; clear hb hbox hg) | ((with_reducible refine gate_dst (N := 3) rfl ?_); (try (refine gate_guard (by rfl) ?_; dsimp only)); refine box_event ?hg (N := 3) ?hd (cs := #[.int .i64 a1_0, .slice A1_1 l1_1.length c1_1]) (t := 24) ?hr ?_; (case hd => rfl); (case hg => rfl); (case hr => first | (go_simp; done) | (go_simp; rfl)); intro gb262 hg w5 hbox hb; have n0_ := Aside0.mk (blk_below (g := gb261) (o := .cells #[.int .i64 a0_0, .slice A0_1 l0_1.length c0_1] 24 (0, 0)) (by (with_reducible repeat (first | refine blk_drewN ?_ _ | refine blk_drew ?_ | refine blk_alloc ?_ _)); exact BK261.out) hb); have n1_ := Aside0.mk (below_step (by repeat (first | (with_reducible first | exact HB.out | apply below_alloc | apply pw_below_drewN | apply below_drew1 | refine below_set ?_ GE261.out) | exact HB.out)) hb); have n2_ := Aside0.mk (hbox); have n3_ := Aside0.mk ((by rw [hg]; exact (below_size (by repeat (first | (with_reducible first | exact HB.out | apply below_alloc | apply pw_below_drewN | apply below_drew1 | refine below_set ?_ GE261.out) | exact HB.out))) : w.heap.size ≤ gb262)); have n4_ := Aside0.mk ((by rw [hg]; exact (below_size (by repeat (first | (with_reducible first | exact HB.out | apply below_alloc | apply pw_below_drewN | apply below_drew1 | refine below_set ?_ GE261.out) | exact HB.out))) : w.heap.size ≤ gb262)); have n5_ := Aside0.mk ((by rw [hg]; exact Nat.ne_of_lt (blk_lt (g := gb261) (o := .cells #[.int .i64 a0_0, .slice A0_1 l0_1.length c0_1] 24 (0, 0)) (by (with_reducible repeat (first | refine blk_drewN ?_ _ | refine blk_drew ?_ | refine blk_alloc ?_ _)); exact BK261.out)) : gb261 ≠ gb262)); have n6_ := Aside0.mk ((by rw [hg]; exact Nat.ne_of_gt (blk_lt (g := gb261) (o := .cells #[.int .i64 a0_0, .slice A0_1 l0_1.length c0_1] 24 (0, 0)) (by (with_reducible repeat (first | refine blk_drewN ?_ _ | refine blk_drew ?_ | refine blk_alloc ?_ _)); exact BK261.out)) : gb262 ≠ gb261)); clear BK261; clear HB; have BK261 := n0_; have HB := n1_; have BK262 := n2_; have GW262 := n3_; have GE262 := n4_; have NB261_262 := n5_; have NB262_261 := n6_; clear n0_ n1_ n2_ n3_ n4_ n5_ n6_; clear hb hbox hg))
 repeat (go_quiet (first | ((with_reducible refine gate_dst (N := 2) rfl ?_); (try (refine gate_guard (by rfl) ?_; dsimp only)); refine box_event ?hg (N := 2) ?hd (cs := #[.int .i64 a0_0, .slice A0_1 l0_1.length c0_1]) (t := 24) ?hr ?_; (case hd => rfl); (case hg => rfl); (case hr => first | (go_simp; done) | (go_simp; rfl)); intro gb261 hg w4 hbox hb; have n0_ := Aside0.mk (below_step (by repeat (first | (with_reducible first | exact HB.out | apply below_alloc | apply pw_below_drewN | apply below_drew1) | exact HB.out)) hb); have n1_ := Aside0.mk (hbox); have n2_ := Aside0.mk ((by rw [hg]; exact (below_size (by repeat (first | (with_reducible first | exact HB.out | apply below_alloc | apply pw_below_drewN | apply below_drew1) | exact HB.out))) : w.heap.size ≤ gb261)); have n3_ := Aside0.mk ((by rw [hg]; exact (below_size (by repeat (first | (with_reducible first | exact HB.out | apply below_alloc | apply pw_below_drewN | apply below_drew1) | exact HB.out))) : w.heap.size ≤ gb261)); clear HB; have HB := n0_; have BK261 := n1_; have GW261 := n2_; have GE261 := n3_; clear n0_ n1_ n2_ n3_; clear hb hbox hg) | ((with_reducible refine gate_dst (N := 3) rfl ?_); (try (refine gate_guard (by rfl) ?_; dsimp only)); refine box_event ?hg (N := 3) ?hd (cs := #[.int .i64 a1_0, .slice A1_1 l1_1.length c1_1]) (t := 24) ?hr ?_; (case hd => rfl); (case hg => rfl); (case hr => first | (go_simp; done) | (go_simp; rfl)); intro gb262 hg w5 hbox hb; have n0_ := Aside0.mk (blk_below (g := gb261) (o := .cells #[.int .i64 a0_0, .slice A0_1 l0_1.length c0_1] 24 (0, 0)) (by (with_reducible repeat (first | refine blk_drewN ?_ _ | refine blk_drew ?_ | refine blk_alloc ?_ _)); exact BK261.out) hb); have n1_ := Aside0.mk (below_step (by repeat (first | (with_reducible first | exact HB.out | apply below_alloc | apply pw_below_drewN | apply below_drew1 | refine below_set ?_ GE261.out) | exact HB.out)) hb); have n2_ := Aside0.mk (hbox); have n3_ := Aside0.mk ((by rw [hg]; exact (below_size (by repeat (first | (with_reducible first | exact HB.out | apply below_alloc | apply pw_below_drewN | apply below_drew1 | refine below_set ?_ GE261.out) | exact HB.out))) : w.heap.size ≤ gb262)); have n4_ := Aside0.mk ((by rw [hg]; exact (below_size (by repeat (first | (with_reducible first | exact HB.out | apply below_alloc | apply pw_below_drewN | apply below_drew1 | refine below_set ?_ GE261.out) | exact HB.out))) : w.heap.size ≤ gb262)); have n5_ := Aside0.mk ((by rw [hg]; exact Nat.ne_of_lt (blk_lt (g := gb261) (o := .cells #[.int .i64 a0_0, .slice A0_1 l0_1.length c0_1] 24 (0, 0)) (by (with_reducible repeat (first | refine blk_drewN ?_ _ | refine blk_drew ?_ | refine blk_alloc ?_ _)); exact BK261.out)) : gb261 ≠ gb262)); have n6_ := Aside0.mk ((by rw [hg]; exact Nat.ne_of_gt (blk_lt (g := gb261) (o := .cells #[.int .i64 a0_0, .slice A0_1 l0_1.length c0_1] 24 (0, 0)) (by (with_reducible repeat (first | refine blk_drewN ?_ _ | refine blk_drew ?_ | refine blk_alloc ?_ _)); exact BK261.out)) : gb262 ≠ gb261)); clear BK261; clear HB; have BK261 := n0_; have HB := n1_; have BK262 := n2_; have GW262 := n3_; have GE262 := n4_; have NB261_262 := n5_; have NB262_261 := n6_; clear n0_ n1_ n2_ n3_ n4_ n5_ n6_; clear hb hbox hg)); go_upto_region 1 with (first | ((with_reducible refine gate_dst (N := 2) rfl ?_); (try (refine gate_guard (by rfl) ?_; dsimp only)); refine box_event ?hg (N := 2) ?hd (cs := #[.int .i64 a0_0, .slice A0_1 l0_1.length c0_1]) (t := 24) ?hr ?_; (case hd => rfl); (case hg => rfl); (case hr => first | (go_simp; done) | (go_simp; rfl)); intro gb261 hg w4 hbox hb; have n0_ := Aside0.mk (below_step (by repeat (first | (with_reducible first | exact HB.out | apply below_alloc | apply pw_below_drewN | apply below_drew1) | exact HB.out)) hb); have n1_ := Aside0.mk (hbox); have n2_ := Aside0.mk ((by rw [hg]; exact (below_size (by repeat (first | (with_reducible first | exact HB.out | apply below_alloc | apply pw_below_drewN | apply below_drew1) | exact HB.out))) : w.heap.size ≤ gb261)); have n3_ := Aside0.mk ((by rw [hg]; exact (below_size (by repeat (first | (with_reducible first | exact HB.out | apply below_alloc | apply pw_below_drewN | apply below_drew1) | exact HB.out))) : w.heap.size ≤ gb261)); clear HB; have HB := n0_; have BK261 := n1_; have GW261 := n2_; have GE261 := n3_; clear n0_ n1_ n2_ n3_; clear hb hbox hg) | ((with_reducible refine gate_dst (N := 3) rfl ?_); (try (refine gate_guard (by rfl) ?_; dsimp only)); refine box_event ?hg (N := 3) ?hd (cs := #[.int .i64 a1_0, .slice A1_1 l1_1.length c1_1]) (t := 24) ?hr ?_; (case hd => rfl); (case hg => rfl); (case hr => first | (go_simp; done) | (go_simp; rfl)); intro gb262 hg w5 hbox hb; have n0_ := Aside0.mk (blk_below (g := gb261) (o := .cells #[.int .i64 a0_0, .slice A0_1 l0_1.length c0_1] 24 (0, 0)) (by (with_reducible repeat (first | refine blk_drewN ?_ _ | refine blk_drew ?_ | refine blk_alloc ?_ _)); exact BK261.out) hb); have n1_ := Aside0.mk (below_step (by repeat (first | (with_reducible first | exact HB.out | apply below_alloc | apply pw_below_drewN | apply below_drew1 | refine below_set ?_ GE261.out) | exact HB.out)) hb); have n2_ := Aside0.mk (hbox); have n3_ := Aside0.mk ((by rw [hg]; exact (below_size (by repeat (first | (with_reducible first | exact HB.out | apply below_alloc | apply pw_below_drewN | apply below_drew1 | refine below_set ?_ GE261.out) | exact HB.out))) : w.heap.size ≤ gb262)); have n4_ := Aside0.mk ((by rw [hg]; exact (below_size (by repeat (first | (with_reducible first | exact HB.out | apply below_alloc | apply pw_below_drewN | apply below_drew1 | refine below_set ?_ GE261.out) | exact HB.out))) : w.heap.size ≤ gb262)); have n5_ := Aside0.mk ((by rw [hg]; exact Nat.ne_of_lt (blk_lt (g := gb261) (o := .cells #[.int .i64 a0_0, .slice A0_1 l0_1.length c0_1] 24 (0, 0)) (by (with_reducible repeat (first | refine blk_drewN ?_ _ | refine blk_drew ?_ | refine blk_alloc ?_ _)); exact BK261.out)) : gb261 ≠ gb262)); have n6_ := Aside0.mk ((by rw [hg]; exact Nat.ne_of_gt (blk_lt (g := gb261) (o := .cells #[.int .i64 a0_0, .slice A0_1 l0_1.length c0_1] 24 (0, 0)) (by (with_reducible repeat (first | refine blk_drewN ?_ _ | refine blk_drew ?_ | refine blk_alloc ?_ _)); exact BK261.out)) : gb262 ≠ gb261)); clear BK261; clear HB; have BK261 := n0_; have HB := n1_; have BK262 := n2_; have GW262 := n3_; have GE262 := n4_; have NB261_262 := n5_; have NB262_261 := n6_; clear n0_ n1_ n2_ n3_ n4_ n5_ n6_; clear hb hbox hg)))
 (try simp only [Act.put, List.setIfInBounds_toArray, List.set_cons_zero, List.set_cons_succ])
 go_cut [19] (fun v19 wc => ∃ (kq : Nat) (x19_2 : Bool), v19 = .bool x19_2 ∧ Aside0 (tangramref03_Equal.j0 kq x19_2 a0_0 l0_1 a1_0 l1_1 = some r) ∧ Aside0 (kq ≤ k) ∧ Aside0 (wc.heap[gb261]? = some (.cells #[.int .i64 a0_0, (.slice A0_1 l0_1.length c0_1)] 24 (0, 0))) ∧ Aside0 (wc.heap[gb262]? = some (.cells #[.int .i64 a1_0, (.slice A1_1 l1_1.length c1_1)] 24 (0, 0))) ∧ Aside0 (Below w.heap.size w wc))
 case first =>
   have H := HC3.out
   clear HC3
   by_cases c6 : a0_0 = a1_0
   · rw [if_pos c6] at H
     have c6b0 : (a0_0 == a1_0) = true := beq_iff_eq.mpr c6
     have c6b1 : (a0_0 != a1_0) = false := bne_eq_false_iff_eq.mpr c6
     clear c6
     (first | rw [c6b0] | (simp only [i64_w, i32_w]; rw [c6b0]) | skip)
     have H' := Aside0.mk H
     clear H
     have hnb7 := NB261_262.out
     have hnc7 := NB262_261.out
     have hcz8_0 : w5.cell? ⟨gb261, 0, none⟩ = some (.int .i64 a0_0) := (blk_cell BK261.out 0).trans rfl
     have hcz8_1 : w5.cell? ⟨gb261, 1, none⟩ = some (.slice A0_1 l0_1.length c0_1) := (blk_cell BK261.out 1).trans rfl
     have hfz8_0 := blk_frozen BK261.out 0
     have hfz8_1 := blk_frozen BK261.out 1
     have hcz9_0 : w5.cell? ⟨gb262, 0, none⟩ = some (.int .i64 a1_0) := (blk_cell BK262.out 0).trans rfl
     have hcz9_1 : w5.cell? ⟨gb262, 1, none⟩ = some (.slice A1_1 l1_1.length c1_1) := (blk_cell BK262.out 1).trans rfl
     have hfz9_0 := blk_frozen BK262.out 0
     have hfz9_1 := blk_frozen BK262.out 1
     go_wp2
     repeat (go_quiet (fail); try go_wp2)
     go_meet
     case rel => exact ⟨_, (((l0_1.length : Int) != (l1_1.length : Int))), (by first | rfl | (simp; done) | (simp [*]; done)), H', ⟨by first | omega | exact Nat.le_refl _⟩, ⟨by (with_reducible repeat (first | refine blk_drewN ?_ _ | refine blk_drew ?_ | refine blk_alloc ?_ _)); exact BK261.out⟩, ⟨by (with_reducible repeat (first | refine blk_drewN ?_ _ | refine blk_drew ?_ | refine blk_alloc ?_ _)); exact BK262.out⟩, ⟨by repeat (first | (with_reducible first | exact HB.out | apply below_alloc | apply pw_below_drewN | apply below_drew1 | refine below_set ?_ GE261.out | refine below_set ?_ GE262.out) | exact HB.out)⟩⟩
   · rw [if_neg c6] at H
     have c6b0 : (a0_0 == a1_0) = false := beq_eq_false_iff_ne.mpr c6
     have c6b1 : (a0_0 != a1_0) = true := bne_iff_ne.mpr c6
     (first | rw [c6b0] | (simp only [i64_w, i32_w]; rw [c6b0]) | skip)
     have H' := Aside0.mk H
     clear H
     have hnb10 := NB261_262.out
     have hnc10 := NB262_261.out
     have hcz11_0 : w5.cell? ⟨gb261, 0, none⟩ = some (.int .i64 a0_0) := (blk_cell BK261.out 0).trans rfl
     have hcz11_1 : w5.cell? ⟨gb261, 1, none⟩ = some (.slice A0_1 l0_1.length c0_1) := (blk_cell BK261.out 1).trans rfl
     have hfz11_0 := blk_frozen BK261.out 0
     have hfz11_1 := blk_frozen BK261.out 1
     have hcz12_0 : w5.cell? ⟨gb262, 0, none⟩ = some (.int .i64 a1_0) := (blk_cell BK262.out 0).trans rfl
     have hcz12_1 : w5.cell? ⟨gb262, 1, none⟩ = some (.slice A1_1 l1_1.length c1_1) := (blk_cell BK262.out 1).trans rfl
     have hfz12_0 := blk_frozen BK262.out 0
     have hfz12_1 := blk_frozen BK262.out 1
     go_wp2
     repeat (go_quiet (fail); try go_wp2)
     go_meet
     case rel => exact ⟨_, (true), (by first | rfl | (simp; done) | (simp [*]; done)), H', ⟨by first | omega | exact Nat.le_refl _⟩, ⟨by (with_reducible repeat (first | refine blk_drewN ?_ _ | refine blk_drew ?_ | refine blk_alloc ?_ _)); exact BK261.out⟩, ⟨by (with_reducible repeat (first | refine blk_drewN ?_ _ | refine blk_drew ?_ | refine blk_alloc ?_ _)); exact BK262.out⟩, ⟨by repeat (first | (with_reducible first | exact HB.out | apply below_alloc | apply pw_below_drewN | apply below_drew1 | refine below_set ?_ GE261.out | refine below_set ?_ GE262.out) | exact HB.out)⟩⟩
 case rest =>
   clear HC3
   try clear c1
   try clear c2
   try clear p2
   try clear c6
   try clear c6b0
   try clear c6b1
   try clear c7
   try clear c10
   try clear hcz11_0
   try clear hcz11_1
   try clear hcz12_0
   try clear hcz12_1
   try clear hcz8_0
   try clear hcz8_1
   try clear hcz9_0
   try clear hcz9_1
   try clear hfz11_0
   try clear hfz11_1
   try clear hfz12_0
   try clear hfz12_1
   try clear hfz8_0
   try clear hfz8_1
   try clear hfz9_0
   try clear hfz9_1
   obtain ⟨kq, x19_2, rfl, HA, HJ2, BK261, BK262, HB⟩ := hcut
   cases kq with
   | zero => exact absurd HA.out (by simp [tangramref03_Equal.j0])
   | succ kj2 =>
     have H := HA.out
     clear HA
     simp only [tangramref03_Equal.j0] at H
     by_cases c13 : x19_2 = true
     · subst c13
       have H1 : (some false) = some r := by rw [if_pos rfl] at H; exact H
       clear H
       have H := H1
       clear H1
       obtain rfl := Option.some.inj H
       go_wp2
       repeat (go_quiet (fail); try go_wp2)
       go_ret
       exact ⟨by first | rfl | (simp [errW_none, errW_some] <;> rfl) | (simp [*, errW_none, errW_some] <;> rfl), by repeat (first | (with_reducible first | exact HB.out | apply below_alloc | apply pw_below_drewN | apply below_drew1 | refine below_set ?_ GE261.out | refine below_set ?_ GE262.out) | exact HB.out)⟩
     · replace c13 := Bool.eq_false_iff.mpr c13
       subst c13
       have H1 : (tangramref03_Equal.l0 kj2 0 a0_0 l0_1 a1_0 l1_1) = some r := by rw [if_neg (show ¬ (false = true) by decide)] at H; exact H
       clear H
       have H := H1
       clear H1
       have H' := Aside0.mk H
       clear H
       go_wp2
       repeat (go_quiet (fail); try go_wp2)
       go_loopg [5] kj2 (fun kq v5 w' => ∃ (x5_2 : Int), v5 = .int .i64 x5_2 ∧ Aside0 (tangramref03_Equal.l0 kq x5_2 a0_0 l0_1 a1_0 l1_1 = some r) ∧ Aside0 (kq ≤ kj2) ∧ Aside0 (w'.heap[gb261]? = some (.cells #[.int .i64 a0_0, (.slice A0_1 l0_1.length c0_1)] 24 (0, 0))) ∧ Aside0 (w'.heap[gb262]? = some (.cells #[.int .i64 a1_0, (.slice A1_1 l1_1.length c1_1)] 24 (0, 0))) ∧ Aside0 (Below w.heap.size w w'))
       case atStart => exact ⟨(0), (by first | rfl | (simp; done) | (simp [*]; done)), H', ⟨Nat.le_refl _⟩, ⟨by (with_reducible repeat (first | refine blk_drewN ?_ _ | refine blk_drew ?_ | refine blk_alloc ?_ _)); exact BK261.out⟩, ⟨by (with_reducible repeat (first | refine blk_drewN ?_ _ | refine blk_drew ?_ | refine blk_alloc ?_ _)); exact BK262.out⟩, ⟨by repeat (first | (with_reducible first | exact HB.out | apply below_alloc | apply pw_below_drewN | apply below_drew1 | refine below_set ?_ GE261.out | refine below_set ?_ GE262.out) | exact HB.out)⟩⟩
       case round =>
         clear H'
         try clear c1
         try clear c2
         try clear p2
         try clear c6
         try clear c6b0
         try clear c6b1
         try clear c7
         try clear c10
         try clear c13
         try clear hcz11_0
         try clear hcz11_1
         try clear hcz12_0
         try clear hcz12_1
         try clear hcz8_0
         try clear hcz8_1
         try clear hcz9_0
         try clear hcz9_1
         try clear hfz11_0
         try clear hfz11_1
         try clear hfz12_0
         try clear hfz12_1
         try clear hfz8_0
         try clear hfz8_1
         try clear hfz9_0
         try clear hfz9_1
         try clear p2
         obtain ⟨x5_2, rfl, HA, HK2, BK261, BK262, HB⟩ := hrel
         cases gk with
         | zero => exact absurd HA.out (by simp [tangramref03_Equal.l0])
         | succ k2 =>
           have H := HA.out
           clear HA
           simp only [tangramref03_Equal.l0] at H
           by_cases c14 : x5_2 < (l0_1.length : Int)
           · rw [if_pos c14] at H
             have c14b0 : decide (x5_2 < (l0_1.length : Int)) = true := decide_eq_true c14
             clear c14
             by_cases c15 : 0 ≤ x5_2
             · rw [if_pos c15] at H
               have c15b0 : decide (0 ≤ x5_2) = true := decide_eq_true c15
               clear c15
               by_cases c16 : x5_2 < (l1_1.length : Int)
               · rw [if_pos c16] at H
                 have c16b0 : decide (x5_2 < (l1_1.length : Int)) = true := decide_eq_true c16
                 clear c16
                 by_cases c17 : ((rd_T56 l0_1 x5_2).f0) = ((rd_T56 l1_1 x5_2).f0)
                 · rw [if_pos c17] at H
                   have c17b0 : (((rd_T56 l0_1 x5_2).f0) == ((rd_T56 l1_1 x5_2).f0)) = true := beq_iff_eq.mpr c17
                   have c17b1 : (((rd_T56 l0_1 x5_2).f0) != ((rd_T56 l1_1 x5_2).f0)) = false := bne_eq_false_iff_eq.mpr c17
                   clear c17
                   by_cases c18 : ((rd_T56 l0_1 x5_2).f1) = ((rd_T56 l1_1 x5_2).f1)
                   · rw [if_pos c18] at H
                     have c18b0 : (((rd_T56 l0_1 x5_2).f1) == ((rd_T56 l1_1 x5_2).f1)) = true := beq_iff_eq.mpr c18
                     have c18b1 : (((rd_T56 l0_1 x5_2).f1) != ((rd_T56 l1_1 x5_2).f1)) = false := bne_eq_false_iff_eq.mpr c18
                     clear c18
                     have H' := Aside0.mk H
                     clear H
                     have hnb19 := NB261_262.out
                     have hnc19 := NB262_261.out
                     have hcz20_0 : wr.cell? ⟨gb261, 0, none⟩ = some (.int .i64 a0_0) := (blk_cell BK261.out 0).trans rfl
                     have hcz20_1 : wr.cell? ⟨gb261, 1, none⟩ = some (.slice A0_1 l0_1.length c0_1) := (blk_cell BK261.out 1).trans rfl
                     have hfz20_0 := blk_frozen BK261.out 0
                     have hfz20_1 := blk_frozen BK261.out 1
                     have p263 : 0 ≤ (x5_2 : Int) := of_decide_eq_true (by first | (with_reducible assumption) | assumption)
                     have q263 : x5_2 < (l0_1.length : Int) := of_decide_eq_true (by first | (with_reducible assumption) | assumption)
                     obtain ⟨ad263, e263, hx263_0, hx263_1⟩ := at_T56 HR0_1.out x5_2 p263 q263
                     cases e263
                     replace hx263_0 := (HB.out.cell (World.block_lt_of_cell? w _ hx263_0)).trans hx263_0
                     replace hx263_1 := (HB.out.cell (World.block_lt_of_cell? w _ hx263_1)).trans hx263_1
                     replace p263 := eq_true p263
                     replace q263 := eq_true q263
                     have hcz21_0 : wr.cell? ⟨gb262, 0, none⟩ = some (.int .i64 a1_0) := (blk_cell BK262.out 0).trans rfl
                     have hcz21_1 : wr.cell? ⟨gb262, 1, none⟩ = some (.slice A1_1 l1_1.length c1_1) := (blk_cell BK262.out 1).trans rfl
                     have hfz21_0 := blk_frozen BK262.out 0
                     have hfz21_1 := blk_frozen BK262.out 1
                     have p264 : 0 ≤ (x5_2 : Int) := of_decide_eq_true (by first | (with_reducible assumption) | assumption)
                     have q264 : x5_2 < (l1_1.length : Int) := of_decide_eq_true (by first | (with_reducible assumption) | assumption)
                     obtain ⟨ad264, e264, hx264_0, hx264_1⟩ := at_T56 HR1_1.out x5_2 p264 q264
                     cases e264
                     replace hx264_0 := (HB.out.cell (World.block_lt_of_cell? w _ hx264_0)).trans hx264_0
                     replace hx264_1 := (HB.out.cell (World.block_lt_of_cell? w _ hx264_1)).trans hx264_1
                     replace p264 := eq_true p264
                     replace q264 := eq_true q264
                     have p265 : 0 ≤ (x5_2 : Int) := of_decide_eq_true (by first | (with_reducible assumption) | assumption)
                     have q265 : x5_2 < (l0_1.length : Int) := of_decide_eq_true (by first | (with_reducible assumption) | assumption)
                     obtain ⟨ad265, e265, hx265_0, hx265_1⟩ := at_T56 HR0_1.out x5_2 p265 q265
                     obtain rfl : ad263 = ad265 := (by injection e265)
                     replace hx265_0 := (HB.out.cell (World.block_lt_of_cell? w _ hx265_0)).trans hx265_0
                     replace hx265_1 := (HB.out.cell (World.block_lt_of_cell? w _ hx265_1)).trans hx265_1
                     replace p265 := eq_true p265
                     replace q265 := eq_true q265
                     have p266 : 0 ≤ (x5_2 : Int) := of_decide_eq_true (by first | (with_reducible assumption) | assumption)
                     have q266 : x5_2 < (l1_1.length : Int) := of_decide_eq_true (by first | (with_reducible assumption) | assumption)
                     obtain ⟨ad266, e266, hx266_0, hx266_1⟩ := at_T56 HR1_1.out x5_2 p266 q266
                     obtain rfl : ad264 = ad266 := (by injection e266)
                     replace hx266_0 := (HB.out.cell (World.block_lt_of_cell? w _ hx266_0)).trans hx266_0
                     replace hx266_1 := (HB.out.cell (World.block_lt_of_cell? w _ hx266_1)).trans hx266_1
                     replace p266 := eq_true p266
                     replace q266 := eq_true q266
                     go_wp2
                     repeat (go_quiet (fail); try go_wp2)
                     go_roundg k2
                     case measure => have := HJ2.out; have := HK2.out; omega
                     case rel => exact ⟨(wrap64 (x5_2 + 1)), (by first | rfl | (simp; done) | (simp [*]; done)), H', ⟨by have := HJ2.out; have := HK2.out; omega⟩, ⟨by (with_reducible repeat (first | refine blk_drewN ?_ _ | refine blk_drew ?_ | refine blk_alloc ?_ _)); exact BK261.out⟩, ⟨by (with_reducible repeat (first | refine blk_drewN ?_ _ | refine blk_drew ?_ | refine blk_alloc ?_ _)); exact BK262.out⟩, ⟨by repeat (first | (with_reducible first | exact HB.out | apply below_alloc | apply pw_below_drewN | apply below_drew1 | refine below_set ?_ GE261.out | refine below_set ?_ GE262.out) | exact HB.out)⟩⟩
                   · rw [if_neg c18] at H
                     have c18b0 : (((rd_T56 l0_1 x5_2).f1) == ((rd_T56 l1_1 x5_2).f1)) = false := beq_eq_false_iff_ne.mpr c18
                     have c18b1 : (((rd_T56 l0_1 x5_2).f1) != ((rd_T56 l1_1 x5_2).f1)) = true := bne_iff_ne.mpr c18
                     obtain rfl := Option.some.inj H
                     have hnb22 := NB261_262.out
                     have hnc22 := NB262_261.out
                     have hcz23_0 : wr.cell? ⟨gb261, 0, none⟩ = some (.int .i64 a0_0) := (blk_cell BK261.out 0).trans rfl
                     have hcz23_1 : wr.cell? ⟨gb261, 1, none⟩ = some (.slice A0_1 l0_1.length c0_1) := (blk_cell BK261.out 1).trans rfl
                     have hfz23_0 := blk_frozen BK261.out 0
                     have hfz23_1 := blk_frozen BK261.out 1
                     have p263 : 0 ≤ (x5_2 : Int) := of_decide_eq_true (by first | (with_reducible assumption) | assumption)
                     have q263 : x5_2 < (l0_1.length : Int) := of_decide_eq_true (by first | (with_reducible assumption) | assumption)
                     obtain ⟨ad263, e263, hx263_0, hx263_1⟩ := at_T56 HR0_1.out x5_2 p263 q263
                     cases e263
                     replace hx263_0 := (HB.out.cell (World.block_lt_of_cell? w _ hx263_0)).trans hx263_0
                     replace hx263_1 := (HB.out.cell (World.block_lt_of_cell? w _ hx263_1)).trans hx263_1
                     replace p263 := eq_true p263
                     replace q263 := eq_true q263
                     have hcz24_0 : wr.cell? ⟨gb262, 0, none⟩ = some (.int .i64 a1_0) := (blk_cell BK262.out 0).trans rfl
                     have hcz24_1 : wr.cell? ⟨gb262, 1, none⟩ = some (.slice A1_1 l1_1.length c1_1) := (blk_cell BK262.out 1).trans rfl
                     have hfz24_0 := blk_frozen BK262.out 0
                     have hfz24_1 := blk_frozen BK262.out 1
                     have p264 : 0 ≤ (x5_2 : Int) := of_decide_eq_true (by first | (with_reducible assumption) | assumption)
                     have q264 : x5_2 < (l1_1.length : Int) := of_decide_eq_true (by first | (with_reducible assumption) | assumption)
                     obtain ⟨ad264, e264, hx264_0, hx264_1⟩ := at_T56 HR1_1.out x5_2 p264 q264
                     cases e264
                     replace hx264_0 := (HB.out.cell (World.block_lt_of_cell? w _ hx264_0)).trans hx264_0
                     replace hx264_1 := (HB.out.cell (World.block_lt_of_cell? w _ hx264_1)).trans hx264_1
                     replace p264 := eq_true p264
                     replace q264 := eq_true q264
                     have p265 : 0 ≤ (x5_2 : Int) := of_decide_eq_true (by first | (with_reducible assumption) | assumption)
                     have q265 : x5_2 < (l0_1.length : Int) := of_decide_eq_true (by first | (with_reducible assumption) | assumption)
                     obtain ⟨ad265, e265, hx265_0, hx265_1⟩ := at_T56 HR0_1.out x5_2 p265 q265
                     obtain rfl : ad263 = ad265 := (by injection e265)
                     replace hx265_0 := (HB.out.cell (World.block_lt_of_cell? w _ hx265_0)).trans hx265_0
                     replace hx265_1 := (HB.out.cell (World.block_lt_of_cell? w _ hx265_1)).trans hx265_1
                     replace p265 := eq_true p265
                     replace q265 := eq_true q265
                     have p266 : 0 ≤ (x5_2 : Int) := of_decide_eq_true (by first | (with_reducible assumption) | assumption)
                     have q266 : x5_2 < (l1_1.length : Int) := of_decide_eq_true (by first | (with_reducible assumption) | assumption)
                     obtain ⟨ad266, e266, hx266_0, hx266_1⟩ := at_T56 HR1_1.out x5_2 p266 q266
                     obtain rfl : ad264 = ad266 := (by injection e266)
                     replace hx266_0 := (HB.out.cell (World.block_lt_of_cell? w _ hx266_0)).trans hx266_0
                     replace hx266_1 := (HB.out.cell (World.block_lt_of_cell? w _ hx266_1)).trans hx266_1
                     replace p266 := eq_true p266
                     replace q266 := eq_true q266
                     go_wp2
                     repeat (go_quiet (fail); try go_wp2)
                     go_ret
                     exact ⟨by first | rfl | (simp [errW_none, errW_some] <;> rfl) | (simp [*, errW_none, errW_some] <;> rfl), by repeat (first | (with_reducible first | exact HB.out | apply below_alloc | apply pw_below_drewN | apply below_drew1 | refine below_set ?_ GE261.out | refine below_set ?_ GE262.out) | exact HB.out)⟩
                 · rw [if_neg c17] at H
                   have c17b0 : (((rd_T56 l0_1 x5_2).f0) == ((rd_T56 l1_1 x5_2).f0)) = false := beq_eq_false_iff_ne.mpr c17
                   have c17b1 : (((rd_T56 l0_1 x5_2).f0) != ((rd_T56 l1_1 x5_2).f0)) = true := bne_iff_ne.mpr c17
                   obtain rfl := Option.some.inj H
                   have hnb25 := NB261_262.out
                   have hnc25 := NB262_261.out
                   have hcz26_0 : wr.cell? ⟨gb261, 0, none⟩ = some (.int .i64 a0_0) := (blk_cell BK261.out 0).trans rfl
                   have hcz26_1 : wr.cell? ⟨gb261, 1, none⟩ = some (.slice A0_1 l0_1.length c0_1) := (blk_cell BK261.out 1).trans rfl
                   have hfz26_0 := blk_frozen BK261.out 0
                   have hfz26_1 := blk_frozen BK261.out 1
                   have p263 : 0 ≤ (x5_2 : Int) := of_decide_eq_true (by first | (with_reducible assumption) | assumption)
                   have q263 : x5_2 < (l0_1.length : Int) := of_decide_eq_true (by first | (with_reducible assumption) | assumption)
                   obtain ⟨ad263, e263, hx263_0, hx263_1⟩ := at_T56 HR0_1.out x5_2 p263 q263
                   cases e263
                   replace hx263_0 := (HB.out.cell (World.block_lt_of_cell? w _ hx263_0)).trans hx263_0
                   replace hx263_1 := (HB.out.cell (World.block_lt_of_cell? w _ hx263_1)).trans hx263_1
                   replace p263 := eq_true p263
                   replace q263 := eq_true q263
                   have hcz27_0 : wr.cell? ⟨gb262, 0, none⟩ = some (.int .i64 a1_0) := (blk_cell BK262.out 0).trans rfl
                   have hcz27_1 : wr.cell? ⟨gb262, 1, none⟩ = some (.slice A1_1 l1_1.length c1_1) := (blk_cell BK262.out 1).trans rfl
                   have hfz27_0 := blk_frozen BK262.out 0
                   have hfz27_1 := blk_frozen BK262.out 1
                   have p264 : 0 ≤ (x5_2 : Int) := of_decide_eq_true (by first | (with_reducible assumption) | assumption)
                   have q264 : x5_2 < (l1_1.length : Int) := of_decide_eq_true (by first | (with_reducible assumption) | assumption)
                   obtain ⟨ad264, e264, hx264_0, hx264_1⟩ := at_T56 HR1_1.out x5_2 p264 q264
                   cases e264
                   replace hx264_0 := (HB.out.cell (World.block_lt_of_cell? w _ hx264_0)).trans hx264_0
                   replace hx264_1 := (HB.out.cell (World.block_lt_of_cell? w _ hx264_1)).trans hx264_1
                   replace p264 := eq_true p264
                   replace q264 := eq_true q264
                   go_wp2
                   repeat (go_quiet (fail); try go_wp2)
                   go_ret
                   exact ⟨by first | rfl | (simp [errW_none, errW_some] <;> rfl) | (simp [*, errW_none, errW_some] <;> rfl), by repeat (first | (with_reducible first | exact HB.out | apply below_alloc | apply pw_below_drewN | apply below_drew1 | refine below_set ?_ GE261.out | refine below_set ?_ GE262.out) | exact HB.out)⟩
               · rw [if_neg c16] at H
                 exact absurd H (by simp)
             · rw [if_neg c15] at H
               exact absurd H (by simp)
           · rw [if_neg c14] at H
             have c14b0 : decide (x5_2 < (l0_1.length : Int)) = false := decide_eq_false c14
             clear c14
             obtain rfl := Option.some.inj H
             have hnb28 := NB261_262.out
             have hnc28 := NB262_261.out
             have hcz29_0 : wr.cell? ⟨gb261, 0, none⟩ = some (.int .i64 a0_0) := (blk_cell BK261.out 0).trans rfl
             have hcz29_1 : wr.cell? ⟨gb261, 1, none⟩ = some (.slice A0_1 l0_1.length c0_1) := (blk_cell BK261.out 1).trans rfl
             have hfz29_0 := blk_frozen BK261.out 0
             have hfz29_1 := blk_frozen BK261.out 1
             go_wp2
             repeat (go_quiet (fail); try go_wp2)
             go_ret
             exact ⟨by first | rfl | (simp [errW_none, errW_some] <;> rfl) | (simp [*, errW_none, errW_some] <;> rfl), by repeat (first | (with_reducible first | exact HB.out | apply below_alloc | apply pw_below_drewN | apply below_drew1 | refine below_set ?_ GE261.out | refine below_set ?_ GE262.out) | exact HB.out)⟩
end Go.Proofs.Ytmikcfddipldnaa.GAll
namespace Go.Proofs.Ytmikcfddipldnaa.Own
open Go.Proofs.Ytmikcfddipldnaa.Rot Go.RowKit Go.Proofs.YtmikcfddipldnaaW.PrintWords Go.Proofs.YtmikcfddipldnaaW.PrintLast Go.Proofs.YtmikcfddipldnaaW.PrintMore Go.Proofs.Ytmikcfddipldnaa.GAll Go.Proofs.Ytmikcfddipldnaa.Mem Go.Proofs.Ytmikcfddipldnaa.Mark Go.Proofs.Ytmikcfddipldnaa.Pile
set_option linter.unusedVariables false
set_option linter.unusedSimpArgs false
structure Says (k : Nat) (n : Int) (l : List Ed) (r : List (List Int)) (e : Int) (fs : List (List Int)) (lf : List Int) (ge : Int) (fl : Bool) : Prop where
 cg : tangramref03_Copy.f k n l = some (n, l)
 of_ : faces_Of.f k n l r = some (fs, e)
 rof : tangramref12_Of.f k n l r = some (fs, e)
 left : faces_Left.f k n l r = some (lf, e)
 rleft : tangramref12_Left.f k n l r = some (lf, e)
 gen : faces_Genus.f k n l r = some (ge, e)
 flat : faces_Flat.f k n l r = some fl
 s1 : tangramref03_SameLists.f k fs fs = some true
 s2 : tangramref03_SameInts.f k lf lf = some true
 eq : tangramref03_Equal.f k n l n l = some true
 rows : ∀ j, j < r.length → tangramref03_SameInts.f k (gl r j) (gl r j) = some true
 b1 : fs.length ≤ 900000000
 b2 : ∀ j, j < fs.length → (gl fs j).length ≤ 900000000
 b3 : lf.length ≤ 900000000
set_option maxHeartbeats 6000000 in
set_option maxRecDepth 100000 in
theorem own_walk (k : Nat) (n : Int) (A : Option Addr) (c : Nat) (l : List Ed) (A1 : Option Addr) (c1 : Nat) (r : List (List Int)) (w : World) (hr : Kd.C k56 w A l.length l) (hc : l.length ≤ c) (hr1 : Kd.C (Kd.slice 3 (Kd.int .i64)) w A1 r.length r) (hc1 : r.length ≤ c1) (hrl : r.length * 24 ≤ 140737488351232) (hrr : ∀ j, j < r.length → (gl r j).length * 8 ≤ 140737488351232)
   {e : Int} {fs : List (List Int)} {lf : List Int} {ge : Int} {fl : Bool} (hh : Says k n l r e fs lf ge fl) :
   Calls Try.prog 5 #[.agg #[.int .i64 n, .slice A l.length c], .slice A1 r.length c1] w fun e w' => e = .returned (.bool true) ∧ Below w.heap.size w w' := by
 have HX := Aside0.mk (heap_last w (.cells #[.int .i64 n, .slice A l.length c] 24 (0, 0)))
 have HB : Aside0 (Below w.heap.size w (w.alloc (.cells #[.int .i64 n, .slice A l.length c] 24 (0, 0)))) := ⟨(Below.refl _ _).alloc (Nat.le_refl _) _⟩
 have HRR := Aside0.mk hr
 have HR1 := Aside0.mk hr1
 have HCC := Aside0.mk hc
 have HCC1 := Aside0.mk hc1
 have HLEN := Aside0.mk hrr
 have HH := Aside0.mk hh
 clear hr hr1 hc hc1 hrr hh
 go_enter Try.func5, Try.ntmps5
 go_wp2_with fail
 obtain ⟨b1, hb1⟩ : ∃ b1, b1 = w.heap.size := ⟨_, rfl⟩
 rw [← hb1] at HX ⊢
 have HBL := Aside0.mk hb1
 clear hb1
 refine (tangramlaw12_wakes.calls true _ rfl).mono ?_
 rintro e1 w1 ⟨rfl, hb⟩
 have HB1 := Aside0.mk (HB.out.trans (hb.mono HB.out.size))
 have HX1 := Aside0.mk ((hb.block _ (lt_of HX.out)).trans HX.out)
 clear hb HB HX
 go_wp2_with fail
 obtain ⟨B0, hB0⟩ : ∃ B0, B0 = w1.heap.size := ⟨_, rfl⟩
 have HW : Aside0 (∃ T : List (Nat × Nat), T.length = 0 ∧ Tab w1 B0 r T ∧ Kd.R (Kd.raw 1) 36 w1 B0 (fun k => True ∧ some k ≠ (Value.slice none 0 0).ownBlock) (.slice none 0 0) (vals r T 2) ∧ Kd.R (Kd.raw 1) 36 w1 B0 (fun k => True ∧ some k ≠ (Value.slice none 0 0).ownBlock) (.slice none 0 0) (vals r T 0)) :=
   ⟨[], rfl, Tab.nil _ _ _, Kd.R_nil _ _ _ _ _, Kd.R_nil _ _ _ _ _⟩
 have HBW : Aside0 (Below B0 w1 w1) := ⟨Below.refl _ _⟩
 have HB0 : Aside0 (w.heap.size ≤ B0 ∧ B0 = w1.heap.size) := ⟨by rw [hB0]; exact HB1.out.size, hB0⟩
 clear hB0
 go_loopw [5, 6, 7] (fun u v y wr => ∃ (j : Nat) (Ai Aw : Option Addr) (ci cw : Nat), u = .slice Ai j ci ∧ v = .slice Aw j cw ∧ y = .int .i64 (j : Int) ∧ j ≤ r.length ∧ Aside0 (∃ T : List (Nat × Nat), T.length = j ∧ Tab wr B0 r T ∧ Kd.R (Kd.raw 1) 36 wr B0 (fun k => True ∧ some k ≠ (Value.slice Ai j ci).ownBlock) (.slice Aw j cw) (vals r T 2) ∧ Kd.R (Kd.raw 1) 36 wr B0 (fun k => True ∧ some k ≠ (Value.slice Aw j cw).ownBlock) (.slice Ai j ci) (vals r T 0)) ∧ Aside0 (Below B0 w1 wr)) (fun _ _ y _ => r.length - (intOf y).toNat)
 case atStart => exact ⟨0, none, none, 0, 0, rfl, rfl, rfl, by omega, HW, HBW⟩
 case round =>
   clear HW HBW
   obtain ⟨j, Ai, Aw, ci, cw, rfl, rfl, rfl, hj, HW, HBW⟩ := hrel
   by_cases hlt : j < r.length
   · have hsz : B0 ≤ wr.heap.size := by have := HB0.out.2; have := HBW.out.size; omega
     have HSZ := Aside0.mk hsz
     have HRC : Aside0 (Kd.C KR wr A1 r.length r) := ⟨Kd.C_below HR1.out (HB1.out.trans (HBW.out.mono HB0.out.1))⟩
     obtain ⟨ad, D, cD, eA, hx0, hcD, hrow⟩ := row_at HRC.out hlt
     obtain ⟨row, hrw⟩ : ∃ row, row = gl r j := ⟨_, rfl⟩
     rw [← hrw] at hx0 hcD hrow
     have HRW := Aside0.mk hrw
     have hrl2 := HLEN.out j hlt
     rw [← hrw] at hrl2
     have HL2 := Aside0.mk hrl2
     subst eA
     have hb0 : Below wr.heap.size wr (wr.alloc (.cells #[] 3 (0, 0))) := (Below.refl _ _).alloc (Nat.le_refl _) _
     have HO : Aside0 (Kd.R (Kd.int .i64) 3 (wr.alloc (.cells #[] 3 (0, 0))) wr.heap.size (fun _ => True) (.slice (some ⟨wr.heap.size, 0, none⟩) 0 0) []) := ⟨Kd.R_of_own (World.ownsRow_lit (base := wr.heap.size) (size := 1) (e := 3) wr #[] 0 (Nat.le_refl _) (by unfold maxLen; omega) rfl) (fun _ _ => trivial)⟩
     have HL := Aside0.mk (Kd.C_below hrow hb0)
     have HB2 := Aside0.mk hb0
     have x0 := (hb0.cell (cell_lt hx0)).trans hx0
     have hzl : (([] : List Int).length + row.length) * 8 ≤ 140737488351232 := by simpa using hrl2
     clear hrow hx0 hb0 hrw hrl2
     go_wp2_with (at_builtin; go_loud (refine Kd.R_append_rows (Kd.int .i64) (Rr := (Kd.int .i64).K (wr.alloc (.cells #[] 3 (0, 0)))) (w0 := wr) (W := wr.alloc (.cells #[] 3 (0, 0))) wr.heap.size rfl _ _ 36 3 (.int .i64 0) 8 rfl Try.underlying36 info_int rfl (by decide) (by decide) (.slice (some ⟨wr.heap.size, 0, none⟩) 0 0) [] row D row.length cD (fun _ => True) (fun _ => False) rfl rfl HO.out HL.out (fun _ _ h => h) (fun _ h => h.elim) (fun _ _ => trivial) HB2.out HB2.out.size (by have := hzl; simp at this ⊢; omega) ?_))
     intro v1 w2 hR hb1 _ _
     obtain ⟨D1, d1, rfl, _, _⟩ := Kd.R_reads hR
     have hbl : Below w2.heap.size w2 (w2.alloc (.cells #[.int .i64 (-7), .int .i64 (-8)] 3 (0, 0))) := (Below.refl _ _).alloc (Nat.le_refl _) _
     have HO2 := Aside0.mk (Kd.R_below hR hbl)
     have HL3 := Aside0.mk (two_lit w2 wr.heap.size hb1.size (-7) (-8))
     have HB3 : Aside0 (Below wr.heap.size wr (w2.alloc (.cells #[.int .i64 (-7), .int .i64 (-8)] 3 (0, 0)))) := ⟨hb1.trans (hbl.mono hb1.size)⟩
     clear hR hb1 hbl HO HL HB2 x0 hzl
     go_wp2_with (at_builtin; go_loud (refine Kd.R_append_rows (Kd.int .i64) (Rr := (Kd.int .i64).K (w2.alloc (.cells #[.int .i64 (-7), .int .i64 (-8)] 3 (0, 0)))) (w0 := wr) (W := w2.alloc (.cells #[.int .i64 (-7), .int .i64 (-8)] 3 (0, 0))) wr.heap.size rfl _ _ 36 3 (.int .i64 0) 8 rfl Try.underlying36 info_int rfl (by decide) (by decide) (.slice D1 row.length d1) row [-7, -8] (some ⟨w2.heap.size, 0, none⟩) 2 2 (fun _ => True) (fun _ => False) rfl rfl HO2.out HL3.out (fun _ _ h => h) (fun _ h => h.elim) (fun _ _ => trivial) HB3.out HB3.out.size (by have := HL2.out; omega) ?_))
     intro v2 w3 hR hb3 _ _
     obtain ⟨g, c2, rfl, hg0, hg1, _⟩ := Kd.R_form hR (by simp)
     have hlen : (row ++ [-7, -8]).length = row.length + 2 := by simp
     rw [hlen] at hR
     have hcap : row.length ≤ c2 := by have := (Kd.R_reads' hR).2.1; omega
     rw [hlen]
     obtain ⟨T, hT, hTab, hWh, hIn⟩ := HW.out
     subst hT
     have hTab3 := hTab.below hb3
     have hWh3 := Kd.R_below hWh hb3
     have hIn3 := Kd.R_below hIn hb3
     have HTN : Aside0 (∀ i, i < T.length → (tb T i).1 < wr.heap.size) := ⟨fun i hi => (hTab.lt hi).2⟩
     have HB4 : Aside0 (Below B0 w1 w3) := ⟨HBW.out.trans (hb3.mono HSZ.out)⟩
     have HROW := Aside0.mk (Kd.R_lower hR HSZ.out)
     have HT3 := Aside0.mk hTab3
     have HW3 := Aside0.mk hWh3
     have HI3 := Aside0.mk hIn3
     have HG0 := Aside0.mk hg0
     have hs3 : B0 ≤ w3.heap.size := Nat.le_trans HSZ.out hb3.size
     have HS3 := Aside0.mk hs3
     have HCAP := Aside0.mk hcap
     clear hR hb3 hTab hWh hIn hTab3 hWh3 hIn3 hg0 hg1 hs3 hlen HO2 HL3 HB3 HW hcap hsz
     have HVL : Aside0 ((vals r T 2).length = T.length ∧ (vals r T 0).length = T.length) := ⟨vals_length _ _ _, vals_length _ _ _⟩
     have HFI : Aside0 (∀ q, w3.heap.size ≤ q → True ∧ some q ≠ (Value.slice Ai T.length ci).ownBlock) := ⟨fun q hq => ⟨trivial, fun e => by have := Kd.R_lt HI3.out q e.symm; omega⟩⟩
     go_wp2_with ((with_reducible refine gate_builtin (b := .append) (xs := #[.tmp 50, .tmp 52]) rfl ?_); at_builtin; refine Kd.R_append (Kd.raw 1) (w0 := w1) B0 rfl (.tmp 50) (.tmp 52) 25 36 (.slice none 0 0) 24 rfl Try.underlying25 info_ints rfl (by decide) (by omega) (.slice Aw T.length cw) (vals r T 2) [.slice (some ⟨g, 0, none⟩) (row.length + 2) c2] [.slice (some ⟨g, 0, none⟩) (row.length + 2) c2] (fun k => True ∧ some k ≠ (Value.slice Ai T.length ci).ownBlock) (fun _ => False) rfl rfl (raw_one _ rfl _ _ _) (fun _ hk => hk.elim) HFI.out HW3.out HB4.out HS3.out (by have := HVL.out.1; omega) ?_)
     intro v4 w4 hR4 hb4 hg4 hat4
     have hI4 := Kd.R_after (v := .slice Aw T.length cw) HI3.out hg4 hat4
     have hT4 := HT3.out.grown (v := .slice Aw T.length cw) (Kd.R_typed HW3.out) hg4
     have hR5 := Kd.R_over' (v := .slice Aw T.length cw) HROW.out (Kd.R_typed HW3.out) (by decide) hg4
     have HTB4 : Aside0 (Tab w4 B0 r (T ++ [(g, c2)])) := ⟨hT4.snoc HTN.out HG0.out (by rw [← HRW.out]; exact hR5)⟩
     have e4 : vals r T 2 ++ [[.slice (some ⟨g, 0, none⟩) (row.length + 2) c2]] = vals r (T ++ [(g, c2)]) 2 := by rw [vals_snoc, ← HRW.out]
     rw [e4] at hR4
     obtain ⟨Aw2, cw2, rfl⟩ := Kd.R_slice hR4
     rw [vals_length, List.length_append, List.length_singleton] at hR4 hI4
     rw [vals_length, List.length_append, List.length_singleton]
     have HW4 : Aside0 (Kd.R (Kd.raw 1) 36 w4 B0 (fun k => True ∧ some k ≠ (Value.slice Ai T.length ci).ownBlock) (.slice Aw2 (T.length + 1) cw2) (vals r (T ++ [(g, c2)]) 2)) := ⟨Kd.R_mono hR4 (fun k hk => ⟨trivial, fun e => by first | exact hk.2 e | exact hk e⟩)⟩
     have HI4 := Aside0.mk hI4
     have HB5 := Aside0.mk hb4
     have HS4 : Aside0 (B0 ≤ w4.heap.size) := ⟨Nat.le_trans HS3.out hg4.size⟩
     have HRC4 : Aside0 (Kd.C KR w4 (some ad) r.length r) := ⟨Kd.C_below HR1.out (HB1.out.trans (hb4.mono HB0.out.1))⟩
     have HFI4 : Aside0 (∀ q, w4.heap.size ≤ q → True ∧ some q ≠ (Value.slice Aw2 (T.length + 1) cw2).ownBlock) := ⟨fun q hq => ⟨trivial, fun e => by have := Kd.R_lt HW4.out q e.symm; omega⟩⟩
     clear hR4 hI4 hT4 hR5 hb4 hg4 hat4 e4 HFI HW3 HI3 HT3 HROW HB4 HS3 HTN HG0 HRC
     obtain ⟨_, D', cD', eA, hx0, hcD', _⟩ := row_at HRC4.out hlt
     injection eA with eA
     subst eA
     rw [← HRW.out] at hx0 hcD'
     have hcap := HCAP.out
     have q1 := slice_own g (row.length + 2) c2 row.length HCAP.out
     go_wp2_with ((with_reducible refine gate_builtin (b := .append) (xs := #[.tmp 54, .tmp 62]) rfl ?_); at_builtin; refine Kd.R_append (Kd.raw 1) (w0 := w1) B0 rfl (.tmp 54) (.tmp 62) 26 36 (.slice none 0 0) 24 rfl Try.underlying26 info_ints rfl (by decide) (by omega) (.slice Ai T.length ci) (vals r T 0) [.slice (some ⟨g, 0, none⟩) row.length c2] [.slice (some ⟨g, 0, none⟩) row.length c2] (fun k => True ∧ some k ≠ (Value.slice Aw2 (T.length + 1) cw2).ownBlock) (fun _ => False) rfl rfl (raw_one _ rfl _ _ _) (fun _ hk => hk.elim) HFI4.out HI4.out HB5.out HS4.out (by have := HVL.out.2; omega) ?_)
     intro v5 w5 hR5 hb5 hg5 hat5
     have hW5 := Kd.R_after (v := .slice Ai T.length ci) HW4.out hg5 hat5
     have hT5 := HTB4.out.grown (v := .slice Ai T.length ci) (Kd.R_typed HI4.out) hg5
     have e5 : vals r T 0 ++ [[.slice (some ⟨g, 0, none⟩) row.length c2]] = vals r (T ++ [(g, c2)]) 0 := by rw [vals_snoc, ← HRW.out]; rfl
     rw [e5] at hR5
     obtain ⟨Ai2, ci2, rfl⟩ := Kd.R_slice hR5
     rw [vals_length, List.length_append, List.length_singleton] at hR5 hW5
     rw [vals_length, List.length_append, List.length_singleton]
     have HNW : Aside0 (∃ T' : List (Nat × Nat), T'.length = T.length + 1 ∧ Tab w5 B0 r T' ∧ Kd.R (Kd.raw 1) 36 w5 B0 (fun k => True ∧ some k ≠ (Value.slice Ai2 (T.length + 1) ci2).ownBlock) (.slice Aw2 (T.length + 1) cw2) (vals r T' 2) ∧ Kd.R (Kd.raw 1) 36 w5 B0 (fun k => True ∧ some k ≠ (Value.slice Aw2 (T.length + 1) cw2).ownBlock) (.slice Ai2 (T.length + 1) ci2) (vals r T' 0)) := ⟨_, by simp, hT5, hW5, Kd.R_mono hR5 (fun k hk => ⟨trivial, fun e => by first | exact hk.2 e | exact hk e⟩)⟩
     have HNB := Aside0.mk hb5
     clear hR5 hW5 hT5 hb5 hg5 hat5 e5 HFI4 HI4 HW4 HTB4 HB5 HS4 HRC4 HVL hx0 hcD' q1 hcap
     go_wp2_with fail
     go_roundw
     case rel => exact ⟨T.length + 1, Ai2, Aw2, ci2, cw2, rfl, rfl, by go_num, by omega, HNW, HNB⟩
     case measure => simp [intOf]; omega
   · obtain rfl : j = r.length := by omega
     obtain ⟨T, hT, hTab, hWh, hIn⟩ := HW.out
     have hInC := hTab.reads hT (by rw [hT]; exact hIn)
     have HB := Aside0.mk (HB1.out.trans (HBW.out.mono HB0.out.1))
     have HX := Aside0.mk ((HBW.out.block _ (by rw [HB0.out.2]; exact lt_of HX1.out)).trans HX1.out)
     have HIN := Aside0.mk hInC.1
     have HINL := Aside0.mk hInC.2
     have HTT := Aside0.mk hT
     have HTAB := Aside0.mk hTab
     obtain ⟨S2, hS2⟩ : ∃ S2, S2 = wr.heap.size := ⟨_, rfl⟩
     have HS2 := Aside0.mk hS2
     have HWH : Aside0 (Kd.R (Kd.raw 1) 36 wr B0 (fun k => B0 ≤ k ∧ k < S2 ∧ ¬ InT T k) (.slice Aw r.length cw) (vals r T 2)) := ⟨by rw [hS2]; exact hTab.apart hWh⟩
     have HTS : Aside0 (∀ k, InT T k → B0 ≤ k ∧ k < S2) := ⟨fun k ⟨j, hj, e⟩ => by rw [e, hS2]; exact hTab.lt hj⟩
     have HGA := Aside0.mk (Kd.C_below HRR.out HB.out)
     have HRA := Aside0.mk (Kd.C_below HR1.out HB.out)
     have HBX : Aside0 (b1 < B0 ∧ B0 ≤ S2) := ⟨by rw [HB0.out.2]; exact lt_of HX1.out, by rw [hS2]; have := HBW.out.size; have := HB0.out.2; omega⟩
     clear hS2 hT hTab hWh hIn hInC HW HBW HB1 HX1 hj hlt
     have x0 : wr.cell? ⟨b1, 0, none⟩ = some (.int .i64 n) := heap_cell HX.out rfl
     have x1 : wr.cell? ⟨b1, 1, none⟩ = some (.slice A l.length c) := heap_cell HX.out rfl
     go_wp2_with fail
     clear x0 x1
     refine (tangramref03_Copy.calls k n A c l n l wr HGA.out HCC.out HH.out.cg).mono ?_
     rintro e' w3 ⟨vg, rfl, hR, hb⟩
     have HS3 : Aside0 (S2 ≤ w3.heap.size) := ⟨by rw [HS2.out]; exact hb.size⟩
     replace HB := Aside0.mk (HB.out.trans (hb.mono HB.out.size))
     replace HX := Aside0.mk ((hb.block _ (lt_of HX.out)).trans HX.out)
     replace HGA := Aside0.mk (Kd.C_below HGA.out hb)
     replace HRA := Aside0.mk (Kd.C_below HRA.out hb)
     (try replace HIN := Aside0.mk (Kd.C_below HIN.out hb))
     replace HTAB := Aside0.mk (HTAB.out.below hb)
     replace HWH := Aside0.mk (Kd.R_below HWH.out hb)
     (try replace HY := Aside0.mk ((hb.block _ (lt_of HY.out)).trans HY.out))
     (try replace HG := Aside0.mk (Kd.R_below HG.out hb))
     (try replace HA := Aside0.mk (HA.out.below hb))
     (try replace HV2 := Aside0.mk (HV2.out.below hb))
     (try replace HV3 := Aside0.mk (HV3.out.below hb))
     (try replace HV4 := Aside0.mk (HV4.out.below hb))
     (try replace HU1 := Aside0.mk (HU1.out.below hb))
     (try replace HU2 := Aside0.mk (HU2.out.below hb))
     obtain ⟨Ag, cg, rfl⟩ := Kd.R_slice hR
     have HG := Aside0.mk (Kd.R_mono (Kd.R_bound hR) (fun k hk => (show S2 ≤ k ∧ k < w3.heap.size from ⟨by rw [HS2.out]; exact hk.2.1, hk.2.2.1⟩)))
     clear hb hR
     obtain ⟨w4, hw4⟩ : ∃ w4, w4 = w3.alloc (.cells #[.int .i64 n, .slice Ag l.length cg] 24 (0, 0)) := ⟨_, rfl⟩
     have hb : Below w3.heap.size w3 w4 := by rw [hw4]; exact (Below.refl _ _).alloc (Nat.le_refl _) _
     obtain ⟨bh, hbh⟩ : ∃ bh, bh = w3.heap.size := ⟨_, rfl⟩
     have HS4 : Aside0 (bh = w3.heap.size ∧ w3.heap.size < w4.heap.size) := ⟨hbh, by rw [hw4]; simp⟩
     have HY : Aside0 (w4.heap[bh]? = some (.cells #[.int .i64 n, .slice Ag l.length cg] 24 (0, 0))) := ⟨by rw [hw4, hbh]; exact heap_last _ _⟩
     replace HB := Aside0.mk (HB.out.trans (hb.mono HB.out.size))
     replace HX := Aside0.mk ((hb.block _ (lt_of HX.out)).trans HX.out)
     replace HGA := Aside0.mk (Kd.C_below HGA.out hb)
     replace HRA := Aside0.mk (Kd.C_below HRA.out hb)
     (try replace HIN := Aside0.mk (Kd.C_below HIN.out hb))
     replace HTAB := Aside0.mk (HTAB.out.below hb)
     replace HWH := Aside0.mk (Kd.R_below HWH.out hb)
     (try replace HY := Aside0.mk ((hb.block _ (lt_of HY.out)).trans HY.out))
     (try replace HG := Aside0.mk (Kd.R_below HG.out hb))
     (try replace HA := Aside0.mk (HA.out.below hb))
     (try replace HV2 := Aside0.mk (HV2.out.below hb))
     (try replace HV3 := Aside0.mk (HV3.out.below hb))
     (try replace HV4 := Aside0.mk (HV4.out.below hb))
     (try replace HU1 := Aside0.mk (HU1.out.below hb))
     (try replace HU2 := Aside0.mk (HU2.out.below hb))
     clear hb
     go_upto_region 12 with (fail)
     rw [← hbh, ← hw4]
     clear hbh hw4
     have HGL : Aside0 (l.length ≤ cg) := ⟨(Kd.R_reads' HG.out).2.1⟩
     have y0 : w4.cell? ⟨bh, 0, none⟩ = some (.int .i64 n) := heap_cell HY.out rfl
     have y1 : w4.cell? ⟨bh, 1, none⟩ = some (.slice Ag l.length cg) := heap_cell HY.out rfl
     go_wp2_with fail
     clear y0 y1
     refine (faces_Of.calls k n Ag cg l Ai ci r fs e w4 (Kd.R_reads' HG.out).2.2 HGL.out HIN.out HINL.out HH.out.of_).mono ?_
     rintro e' w5 ⟨vv, rfl, hS, hb⟩
     have HS5 := Aside0.mk hb.size
     replace HB := Aside0.mk (HB.out.trans (hb.mono HB.out.size))
     replace HX := Aside0.mk ((hb.block _ (lt_of HX.out)).trans HX.out)
     replace HGA := Aside0.mk (Kd.C_below HGA.out hb)
     replace HRA := Aside0.mk (Kd.C_below HRA.out hb)
     (try replace HIN := Aside0.mk (Kd.C_below HIN.out hb))
     replace HTAB := Aside0.mk (HTAB.out.below hb)
     replace HWH := Aside0.mk (Kd.R_below HWH.out hb)
     (try replace HY := Aside0.mk ((hb.block _ (lt_of HY.out)).trans HY.out))
     (try replace HG := Aside0.mk (Kd.R_below HG.out hb))
     (try replace HA := Aside0.mk (HA.out.below hb))
     (try replace HV2 := Aside0.mk (HV2.out.below hb))
     (try replace HV3 := Aside0.mk (HV3.out.below hb))
     (try replace HV4 := Aside0.mk (HV4.out.below hb))
     (try replace HU1 := Aside0.mk (HU1.out.below hb))
     (try replace HU2 := Aside0.mk (HU2.out.below hb))
     obtain ⟨Aa, ca, rfl⟩ := Kd.S_slice hS
     obtain ⟨TA, hTA, hG⟩ := Grid.of_S hS
     have HTA := Aside0.mk hTA
     have HA := Aside0.mk hG
     clear hb hS hTA hG
     have y0 : w5.cell? ⟨bh, 0, none⟩ = some (.int .i64 n) := heap_cell HY.out rfl
     have y1 : w5.cell? ⟨bh, 1, none⟩ = some (.slice Ag l.length cg) := heap_cell HY.out rfl
     go_wp2_with fail
     clear y0 y1
     refine (faces_Of.calls k n Ag cg l Ai ci r fs e w5 (Kd.R_reads' HG.out).2.2 HGL.out HIN.out HINL.out HH.out.of_).mono ?_
     rintro e' w6 ⟨vv, rfl, hS, hb⟩
     have HS6 := Aside0.mk hb.size
     replace HB := Aside0.mk (HB.out.trans (hb.mono HB.out.size))
     replace HX := Aside0.mk ((hb.block _ (lt_of HX.out)).trans HX.out)
     replace HGA := Aside0.mk (Kd.C_below HGA.out hb)
     replace HRA := Aside0.mk (Kd.C_below HRA.out hb)
     (try replace HIN := Aside0.mk (Kd.C_below HIN.out hb))
     replace HTAB := Aside0.mk (HTAB.out.below hb)
     replace HWH := Aside0.mk (Kd.R_below HWH.out hb)
     (try replace HY := Aside0.mk ((hb.block _ (lt_of HY.out)).trans HY.out))
     (try replace HG := Aside0.mk (Kd.R_below HG.out hb))
     (try replace HA := Aside0.mk (HA.out.below hb))
     (try replace HV2 := Aside0.mk (HV2.out.below hb))
     (try replace HV3 := Aside0.mk (HV3.out.below hb))
     (try replace HV4 := Aside0.mk (HV4.out.below hb))
     (try replace HU1 := Aside0.mk (HU1.out.below hb))
     (try replace HU2 := Aside0.mk (HU2.out.below hb))
     obtain ⟨Ab, cb, rfl⟩ := Kd.S_slice hS
     have HV2 := Aside0.mk (Lsts.of hS)
     clear hb hS
     have y0 : w6.cell? ⟨bh, 0, none⟩ = some (.int .i64 n) := heap_cell HY.out rfl
     have y1 : w6.cell? ⟨bh, 1, none⟩ = some (.slice Ag l.length cg) := heap_cell HY.out rfl
     go_wp2_with fail
     clear y0 y1
     refine (faces_Left.calls k n Ag cg l Ai ci r lf e w6 (Kd.R_reads' HG.out).2.2 HGL.out HIN.out HINL.out HH.out.left).mono ?_
     rintro e' w7 ⟨vv, rfl, hS, hb⟩
     have HS7 := Aside0.mk hb.size
     replace HB := Aside0.mk (HB.out.trans (hb.mono HB.out.size))
     replace HX := Aside0.mk ((hb.block _ (lt_of HX.out)).trans HX.out)
     replace HGA := Aside0.mk (Kd.C_below HGA.out hb)
     replace HRA := Aside0.mk (Kd.C_below HRA.out hb)
     (try replace HIN := Aside0.mk (Kd.C_below HIN.out hb))
     replace HTAB := Aside0.mk (HTAB.out.below hb)
     replace HWH := Aside0.mk (Kd.R_below HWH.out hb)
     (try replace HY := Aside0.mk ((hb.block _ (lt_of HY.out)).trans HY.out))
     (try replace HG := Aside0.mk (Kd.R_below HG.out hb))
     (try replace HA := Aside0.mk (HA.out.below hb))
     (try replace HV2 := Aside0.mk (HV2.out.below hb))
     (try replace HV3 := Aside0.mk (HV3.out.below hb))
     (try replace HV4 := Aside0.mk (HV4.out.below hb))
     (try replace HU1 := Aside0.mk (HU1.out.below hb))
     (try replace HU2 := Aside0.mk (HU2.out.below hb))
     obtain ⟨Ac, cc, rfl⟩ := Kd.R_slice hS
     have HV3 := Aside0.mk (Lst.of hS)
     clear hb hS
     have y0 : w7.cell? ⟨bh, 0, none⟩ = some (.int .i64 n) := heap_cell HY.out rfl
     have y1 : w7.cell? ⟨bh, 1, none⟩ = some (.slice Ag l.length cg) := heap_cell HY.out rfl
     go_wp2_with fail
     clear y0 y1
     refine (faces_Left.calls k n Ag cg l Ai ci r lf e w7 (Kd.R_reads' HG.out).2.2 HGL.out HIN.out HINL.out HH.out.left).mono ?_
     rintro e' w8 ⟨vv, rfl, hS, hb⟩
     have HS8 := Aside0.mk hb.size
     replace HB := Aside0.mk (HB.out.trans (hb.mono HB.out.size))
     replace HX := Aside0.mk ((hb.block _ (lt_of HX.out)).trans HX.out)
     replace HGA := Aside0.mk (Kd.C_below HGA.out hb)
     replace HRA := Aside0.mk (Kd.C_below HRA.out hb)
     (try replace HIN := Aside0.mk (Kd.C_below HIN.out hb))
     replace HTAB := Aside0.mk (HTAB.out.below hb)
     replace HWH := Aside0.mk (Kd.R_below HWH.out hb)
     (try replace HY := Aside0.mk ((hb.block _ (lt_of HY.out)).trans HY.out))
     (try replace HG := Aside0.mk (Kd.R_below HG.out hb))
     (try replace HA := Aside0.mk (HA.out.below hb))
     (try replace HV2 := Aside0.mk (HV2.out.below hb))
     (try replace HV3 := Aside0.mk (HV3.out.below hb))
     (try replace HV4 := Aside0.mk (HV4.out.below hb))
     (try replace HU1 := Aside0.mk (HU1.out.below hb))
     (try replace HU2 := Aside0.mk (HU2.out.below hb))
     obtain ⟨Ad, cd, rfl⟩ := Kd.R_slice hS
     have HV4 := Aside0.mk (Lst.of hS)
     clear hb hS
     have y0 : w8.cell? ⟨bh, 0, none⟩ = some (.int .i64 n) := heap_cell HY.out rfl
     have y1 : w8.cell? ⟨bh, 1, none⟩ = some (.slice Ag l.length cg) := heap_cell HY.out rfl
     go_wp2_with fail
     clear y0 y1
     refine (faces_Genus.calls k n Ag cg l Ai ci r ge e w8 (Kd.R_reads' HG.out).2.2 HGL.out HIN.out HINL.out HH.out.gen).mono ?_
     rintro e' w9 ⟨rfl, hb⟩
     have HS9 := Aside0.mk hb.size
     replace HB := Aside0.mk (HB.out.trans (hb.mono HB.out.size))
     replace HX := Aside0.mk ((hb.block _ (lt_of HX.out)).trans HX.out)
     replace HGA := Aside0.mk (Kd.C_below HGA.out hb)
     replace HRA := Aside0.mk (Kd.C_below HRA.out hb)
     (try replace HIN := Aside0.mk (Kd.C_below HIN.out hb))
     replace HTAB := Aside0.mk (HTAB.out.below hb)
     replace HWH := Aside0.mk (Kd.R_below HWH.out hb)
     (try replace HY := Aside0.mk ((hb.block _ (lt_of HY.out)).trans HY.out))
     (try replace HG := Aside0.mk (Kd.R_below HG.out hb))
     (try replace HA := Aside0.mk (HA.out.below hb))
     (try replace HV2 := Aside0.mk (HV2.out.below hb))
     (try replace HV3 := Aside0.mk (HV3.out.below hb))
     (try replace HV4 := Aside0.mk (HV4.out.below hb))
     (try replace HU1 := Aside0.mk (HU1.out.below hb))
     (try replace HU2 := Aside0.mk (HU2.out.below hb))
     clear hb
     have y0 : w9.cell? ⟨bh, 0, none⟩ = some (.int .i64 n) := heap_cell HY.out rfl
     have y1 : w9.cell? ⟨bh, 1, none⟩ = some (.slice Ag l.length cg) := heap_cell HY.out rfl
     go_wp2_with fail
     clear y0 y1
     refine (faces_Flat.calls k n Ag cg l Ai ci r fl w9 (Kd.R_reads' HG.out).2.2 HGL.out HIN.out HINL.out HH.out.flat).mono ?_
     rintro e' w10 ⟨rfl, hb⟩
     have HS11 := Aside0.mk hb.size
     replace HB := Aside0.mk (HB.out.trans (hb.mono HB.out.size))
     replace HX := Aside0.mk ((hb.block _ (lt_of HX.out)).trans HX.out)
     replace HGA := Aside0.mk (Kd.C_below HGA.out hb)
     replace HRA := Aside0.mk (Kd.C_below HRA.out hb)
     (try replace HIN := Aside0.mk (Kd.C_below HIN.out hb))
     replace HTAB := Aside0.mk (HTAB.out.below hb)
     replace HWH := Aside0.mk (Kd.R_below HWH.out hb)
     (try replace HY := Aside0.mk ((hb.block _ (lt_of HY.out)).trans HY.out))
     (try replace HG := Aside0.mk (Kd.R_below HG.out hb))
     (try replace HA := Aside0.mk (HA.out.below hb))
     (try replace HV2 := Aside0.mk (HV2.out.below hb))
     (try replace HV3 := Aside0.mk (HV3.out.below hb))
     (try replace HV4 := Aside0.mk (HV4.out.below hb))
     (try replace HU1 := Aside0.mk (HU1.out.below hb))
     (try replace HU2 := Aside0.mk (HU2.out.below hb))
     clear hb
     clear HIN HINL
     go_wp2_with fail
     have HE : Aside0 (Below w10.heap.size w10 w10) := ⟨Below.refl _ _⟩
     go_loopw [18] (fun y ws => ∃ (j : Nat), y = .int .i64 (j : Int) ∧ j ≤ r.length ∧ Aside0 (Below w10.heap.size w10 ws)) (fun y _ => r.length - (intOf y).toNat)
     case atStart => exact ⟨0, rfl, by omega, HE⟩
     case round =>
       clear HE
       obtain ⟨j, rfl, hj, HE⟩ := hrel
       by_cases hlt : j < r.length
       · obtain ⟨ad, D, cD, eA, hx0, hcD, hrow⟩ := row_at (Kd.C_below HRA.out HE.out) hlt
         have hjT : j < T.length := by rw [HTT.out]; exact hlt
         obtain ⟨adw, eW, hx1⟩ := whole_at HWH.out hjT
         replace hx1 := (HE.out.cell (cell_lt hx1)).trans hx1
         obtain ⟨f2, f3, f4⟩ := row_full (HTAB.out.below HE.out) hjT
         obtain ⟨row, hrw⟩ : ∃ row, row = gl r j := ⟨_, rfl⟩
         obtain ⟨g, hg⟩ : ∃ g, g = (tb T j).1 := ⟨_, rfl⟩
         obtain ⟨ct, hct⟩ : ∃ ct, ct = (tb T j).2 := ⟨_, rfl⟩
         unfold sl at hx1
         rw [← hrw] at hx0 hcD hrow hx1 f2 f3 f4
         rw [← hg, ← hct] at hx1
         rw [← hg] at f3 f4
         rw [← hct] at f2
         have hrl2 := HLEN.out j hlt
         rw [← hrw] at hrl2
         subst eA eW
         obtain ⟨L, hL⟩ : ∃ L, L = row.length := ⟨_, rfl⟩
         have q1 := slice_own g (row.length + 2) ct row.length (by omega)
         have z1 := Kd.C_at2 f3 row.length (by omega)
         have z2 := Kd.C_at2 f3 (row.length + 1) (by omega)
         rw [(gi_end row (-7) (-8)).1] at z1
         rw [(gi_end row (-7) (-8)).2] at z2
         have Q1 : Aside0 (∀ n, Calls Try.prog 17 #[.slice (some ⟨g, 0, none⟩) row.length ct, .slice D row.length cD] (wr.drewN n) fun e w' => e = .returned (.bool true) ∧ ∃ m, w' = (wr.drewN n).drewN m) := ⟨fun n => by
           have h := tangramref03_SameInts.calls k (some ⟨g, 0, none⟩) ct row D cD row true (wr.drewN n) (Kd.C_below f4 (pw_below_drewN (Below.refl _ _) n)) (by omega) (Kd.C_below hrow (pw_below_drewN (Below.refl _ _) n)) hcD (by rw [hrw]; exact HH.out.rows j hlt)
           exact h.mono fun _ _ ⟨h1, ⟨h2⟩⟩ => ⟨h1, h2⟩⟩
         obtain ⟨L1, hL1⟩ : ∃ L1, L1 = row.length + 1 := ⟨_, rfl⟩
         rw [← hL1] at z2
         have r1 : IntKind.i64.wrap ((row.length : Int) + 1) = (L1 : Int) := by rw [IntWalk.i64_in _ (by omega)]; omega
         have r2 : ((L1 : Int)).toNat = L1 := Int.toNat_natCast _
         have hlen1 : row.length < row.length + 2 := by omega
         have hlen2 : L1 < row.length + 2 := by omega
         have hcap : row.length ≤ ct := by omega
         have HTW : Aside0 (j < T.length) := ⟨hjT⟩
         have hjr : j < r.length := hlt
         clear hcD hrow hjT f3 f4 hrw hg hct hL hL1 f2
         go_wp2_with fail
         go_quiet ((go_at_call 17; exact Calls.quiet_of (Q1.out _)))
         go_wp2_with fail
         clear hx0 hx1 q1 z1 z2 r1 r2 hlen1 hlen2 hcap
         go_roundw
         case rel => exact ⟨j + 1, by go_num, by omega, ⟨ValH.below_drewN HE.out _⟩⟩
         case measure => simp [intOf]; omega
       · obtain rfl : j = r.length := by omega
         have hb := HE.out
         have HS12 : Aside0 (w10.heap.size ≤ wr.heap.size) := ⟨hb.size⟩
         replace HB := Aside0.mk (HB.out.trans (hb.mono HB.out.size))
         replace HX := Aside0.mk ((hb.block _ (lt_of HX.out)).trans HX.out)
         replace HGA := Aside0.mk (Kd.C_below HGA.out hb)
         replace HRA := Aside0.mk (Kd.C_below HRA.out hb)
         (try replace HIN := Aside0.mk (Kd.C_below HIN.out hb))
         replace HTAB := Aside0.mk (HTAB.out.below hb)
         replace HWH := Aside0.mk (Kd.R_below HWH.out hb)
         (try replace HY := Aside0.mk ((hb.block _ (lt_of HY.out)).trans HY.out))
         (try replace HG := Aside0.mk (Kd.R_below HG.out hb))
         (try replace HA := Aside0.mk (HA.out.below hb))
         (try replace HV2 := Aside0.mk (HV2.out.below hb))
         (try replace HV3 := Aside0.mk (HV3.out.below hb))
         (try replace HV4 := Aside0.mk (HV4.out.below hb))
         (try replace HU1 := Aside0.mk (HU1.out.below hb))
         (try replace HU2 := Aside0.mk (HU2.out.below hb))
         clear hb HE
         have x0 : wr.cell? ⟨b1, 0, none⟩ = some (.int .i64 n) := heap_cell HX.out rfl
         have x1 : wr.cell? ⟨b1, 1, none⟩ = some (.slice A l.length c) := heap_cell HX.out rfl
         go_wp2_with fail
         clear x0 x1
         refine (tangramref12_Of.calls k n A c l A1 c1 r fs e wr HGA.out HCC.out HRA.out HCC1.out HH.out.rof).mono ?_
         rintro e' w13 ⟨vv, rfl, hS, hb⟩
         have HS13 := Aside0.mk hb.size
         replace HB := Aside0.mk (HB.out.trans (hb.mono HB.out.size))
         replace HX := Aside0.mk ((hb.block _ (lt_of HX.out)).trans HX.out)
         replace HGA := Aside0.mk (Kd.C_below HGA.out hb)
         replace HRA := Aside0.mk (Kd.C_below HRA.out hb)
         (try replace HIN := Aside0.mk (Kd.C_below HIN.out hb))
         replace HTAB := Aside0.mk (HTAB.out.below hb)
         replace HWH := Aside0.mk (Kd.R_below HWH.out hb)
         (try replace HY := Aside0.mk ((hb.block _ (lt_of HY.out)).trans HY.out))
         (try replace HG := Aside0.mk (Kd.R_below HG.out hb))
         (try replace HA := Aside0.mk (HA.out.below hb))
         (try replace HV2 := Aside0.mk (HV2.out.below hb))
         (try replace HV3 := Aside0.mk (HV3.out.below hb))
         (try replace HV4 := Aside0.mk (HV4.out.below hb))
         (try replace HU1 := Aside0.mk (HU1.out.below hb))
         (try replace HU2 := Aside0.mk (HU2.out.below hb))
         obtain ⟨Ea, da, rfl⟩ := Kd.S_slice hS
         have HU1 := Aside0.mk (Lsts.of hS)
         clear hb hS
         have x0 : w13.cell? ⟨b1, 0, none⟩ = some (.int .i64 n) := heap_cell HX.out rfl
         have x1 : w13.cell? ⟨b1, 1, none⟩ = some (.slice A l.length c) := heap_cell HX.out rfl
         go_wp2_with fail
         clear x0 x1
         refine (tangramref12_Left.calls k n A c l A1 c1 r lf e w13 HGA.out HCC.out HRA.out HCC1.out HH.out.rleft).mono ?_
         rintro e' w15 ⟨vv, rfl, hS, hb⟩
         have HS15 := Aside0.mk hb.size
         replace HB := Aside0.mk (HB.out.trans (hb.mono HB.out.size))
         replace HX := Aside0.mk ((hb.block _ (lt_of HX.out)).trans HX.out)
         replace HGA := Aside0.mk (Kd.C_below HGA.out hb)
         replace HRA := Aside0.mk (Kd.C_below HRA.out hb)
         (try replace HIN := Aside0.mk (Kd.C_below HIN.out hb))
         replace HTAB := Aside0.mk (HTAB.out.below hb)
         replace HWH := Aside0.mk (Kd.R_below HWH.out hb)
         (try replace HY := Aside0.mk ((hb.block _ (lt_of HY.out)).trans HY.out))
         (try replace HG := Aside0.mk (Kd.R_below HG.out hb))
         (try replace HA := Aside0.mk (HA.out.below hb))
         (try replace HV2 := Aside0.mk (HV2.out.below hb))
         (try replace HV3 := Aside0.mk (HV3.out.below hb))
         (try replace HV4 := Aside0.mk (HV4.out.below hb))
         (try replace HU1 := Aside0.mk (HU1.out.below hb))
         (try replace HU2 := Aside0.mk (HU2.out.below hb))
         obtain ⟨Ec, dc, rfl⟩ := Kd.R_slice hS
         have HU2 := Aside0.mk (Lst.of hS)
         clear hb hS
         have HSZ : Aside0 (w.heap.size ≤ B0 ∧ b1 < B0 ∧ B0 ≤ S2 ∧ S2 ≤ w3.heap.size ∧ bh = w3.heap.size ∧ w3.heap.size < w4.heap.size ∧ w4.heap.size ≤ w5.heap.size ∧ w5.heap.size ≤ w6.heap.size ∧ w6.heap.size ≤ w7.heap.size ∧ w7.heap.size ≤ w8.heap.size ∧ w8.heap.size ≤ w9.heap.size ∧ w9.heap.size ≤ w10.heap.size ∧ w10.heap.size ≤ wr.heap.size ∧ wr.heap.size ≤ w13.heap.size ∧ w13.heap.size ≤ w15.heap.size) :=
           ⟨HB0.out.1, HBX.out.1, HBX.out.2, HS3.out, HS4.out.1, HS4.out.2, HS5.out, HS6.out, HS7.out, HS8.out, HS9.out, HS11.out, HS12.out, HS13.out, HS15.out⟩
         have HRT := Aside0.mk HTAB.out.rowsT
         have HRISE := Aside0.mk HTAB.out.rise
         clear HTAB HGA HRA HS2 HS3 HS4 HS5 HS6 HS7 HS8 HS9 HS11 HS12 HS13 HS15 HB0 HBX
         go_wp2_with fail
         have HF : Aside0 (Mem.Frame (InP TA) w15 w15) := ⟨Mem.Frame.refl _ _⟩
         have HNA : Aside0 (∀ j, j < fs.length → (gl fs j).length ≤ 900000000) := ⟨HH.out.b2⟩
         have hfl := HH.out.b1
         have HAV : Aside0 (∃ V, Grid w15 w4.heap.size w5.heap.size Aa TA (fun j => (gl fs j).length) V ∧ ∀ a i, a < 0 → i < (gl fs a).length → V a i = -100 - (a : Int)) := ⟨_, HA.out, fun a i h => absurd h (by omega)⟩
         clear HA
         go_loopw [154] (fun y ws => ∃ (j : Nat), y = .int .i64 (j : Int) ∧ j ≤ fs.length ∧ Aside0 (Mem.Frame (InP TA) w15 ws) ∧ Aside0 (∃ V, Grid ws w4.heap.size w5.heap.size Aa TA (fun j => (gl fs j).length) V ∧ ∀ a i, a < j → i < (gl fs a).length → V a i = -100 - (a : Int))) (fun y _ => fs.length - (intOf y).toNat)
         case atStart => exact ⟨0, rfl, by omega, HF, HAV⟩
         case round =>
           clear HF HAV
           obtain ⟨j, rfl, hj, HF, HAV⟩ := hrel
           by_cases hlt : j < fs.length
           · obtain ⟨V, hGr, hV⟩ := HAV.out
             obtain ⟨go, B, cB, rfl, hva, hx1⟩ := hGr.row (j := j) (by rw [HTA.out]; exact hlt)
             have HVA := Aside0.mk hva
             obtain ⟨L, hL⟩ : ∃ L, L = (gl fs j).length := ⟨_, rfl⟩
             have HLL := Aside0.mk hL
             have hLb : L ≤ 900000000 := by rw [hL]; exact HNA.out j hlt
             rw [← hL] at hx1
             have HAI : Aside0 (∃ V, Grid wr w4.heap.size w5.heap.size (some ⟨go, 0, none⟩) TA (fun j => (gl fs j).length) V ∧ (∀ a i, a < j → i < (gl fs a).length → V a i = -100 - (a : Int)) ∧ ∀ i, i < 0 → V j i = -100 - (j : Int)) := ⟨V, hGr, hV, fun i h => absurd h (by omega)⟩
             clear hGr hV hva hL HAV
             go_wp2_with fail
             clear hx1
             go_loopw [162] (fun y ws => ∃ (i : Nat), y = .int .i64 (i : Int) ∧ i ≤ L ∧ Aside0 (Mem.Frame (InP TA) w15 ws) ∧ Aside0 (∃ V, Grid ws w4.heap.size w5.heap.size (some ⟨go, 0, none⟩) TA (fun j => (gl fs j).length) V ∧ (∀ a i, a < j → i < (gl fs a).length → V a i = -100 - (a : Int)) ∧ ∀ i', i' < i → V j i' = -100 - (j : Int))) (fun y _ => L - (intOf y).toNat)
             case atStart => exact ⟨0, rfl, by omega, HF, HAI⟩
             case round =>
               clear HF HAI
               obtain ⟨i, rfl, hi, HF, HAI⟩ := hrel
               by_cases hil : i < L
               · obtain ⟨V, hGr, hV, hV2⟩ := HAI.out
                 obtain ⟨x, hxx⟩ : ∃ x, x = -100 - (j : Int) := ⟨_, rfl⟩
                 have r1 : IntKind.i64.wrap (-100 - (j : Int)) = x := by rw [IntWalk.i64_in _ (by omega)]; exact hxx.symm
                 obtain ⟨g, c2, e2, z0, f0, hIn, hG2⟩ := hGr.put (j := j) (i := i) (by rw [HTA.out]; exact hlt) (by rw [← HLL.out]; exact hil) x
                 obtain ⟨go2, B2, cB2, eo, e3, hx⟩ := hGr.row (j := j) (by rw [HTA.out]; exact hlt)
                 obtain rfl : go = go2 := by injection eo with eo; injection eo
                 rw [e3] at e2
                 injection e2 with e4 _ e5
                 subst e4 e5
                 have e6 : (gl fs j).length = L := HLL.out.symm
                 simp only [e6] at hx
                 have HF2 := Aside0.mk (HF.out.setCell (p := ⟨g, i, none⟩) hIn (.int .i64 x))
                 have HAI2 : Aside0 (∃ V, Grid (wr.setCell ⟨g, i, none⟩ (.int .i64 x)) w4.heap.size w5.heap.size (some ⟨go, 0, none⟩) TA (fun j => (gl fs j).length) V ∧ (∀ a i, a < j → i < (gl fs a).length → V a i = -100 - (a : Int)) ∧ ∀ i', i' < i + 1 → V j i' = -100 - (j : Int)) :=
                   ⟨_, hG2, fun a i2 h1 h2 => by rw [upd_ne _ _ (.inl (by omega))]; exact hV a i2 h1 h2, fun i2 h2 => by
                     by_cases e7 : i2 = i
                     · rw [e7, upd_at, hxx]
                     · rw [upd_ne _ _ (.inr e7)]; exact hV2 i2 (by omega)⟩
                 have hib : i ≤ 900000000 := by omega
                 clear hGr hV hV2 hG2 hIn e3 e6 eo HF HAI hxx
                 go_wp2_with fail
                 clear hx z0 f0 r1
                 go_roundw
                 case rel => exact ⟨i + 1, by go_num, by omega, HF2, HAI2⟩
                 case measure => simp [intOf]; omega
               · obtain rfl : i = L := by omega
                 obtain ⟨V, hGr, hV, hV2⟩ := HAI.out
                 have HAV2 : Aside0 (∃ V, Grid wr w4.heap.size w5.heap.size (some ⟨go, 0, none⟩) TA (fun j => (gl fs j).length) V ∧ ∀ a i, a < j + 1 → i < (gl fs a).length → V a i = -100 - (a : Int)) := ⟨V, hGr, fun a i2 h1 h2 => by
                   rcases Nat.lt_succ_iff_lt_or_eq.1 h1 with h3 | h3
                   · exact hV a i2 h3 h2
                   · rw [h3] at h2 ⊢; exact hV2 i2 (by rw [HLL.out]; exact h2)⟩
                 clear hGr hV hV2 HAI
                 go_wp2_with fail
                 go_roundw
                 case rel => exact ⟨j + 1, by go_num, by omega, HF, HAV2⟩
                 case measure => simp [intOf]; omega
           · obtain rfl : j = fs.length := by omega
             have HGR : Aside0 (Grid wr w4.heap.size w5.heap.size Aa TA (fun j => (gl fs j).length) (fun a _ => -100 - (a : Int))) := by
               obtain ⟨V, hGr, hV⟩ := HAV.out
               exact ⟨hGr.congr (fun a i h1 h2 => (hV a i (by rw [← HTA.out]; exact h1) h2).symm)⟩
             clear HAV hj hlt
             obtain ⟨SA, hSA⟩ : ∃ SA, SA = wr.heap.size := ⟨_, rfl⟩
             have HSA : Aside0 (w15.heap.size ≤ SA ∧ SA ≤ wr.heap.size) := ⟨by rw [hSA]; exact ⟨HF.out.size, Nat.le_refl _⟩⟩
             clear hSA
             go_wp2_with fail
             go_loopw [177] (fun y ws => ∃ (j : Nat), y = .int .i64 (j : Int) ∧ j ≤ fs.length ∧ Aside0 (Mem.Frame (InP TA) w15 ws) ∧ Aside0 (Grid ws w4.heap.size w5.heap.size Aa TA (fun j => (gl fs j).length) (fun a _ => -100 - (a : Int))) ∧ Aside0 (SA ≤ ws.heap.size)) (fun y _ => fs.length - (intOf y).toNat)
             case atStart => exact ⟨0, rfl, by omega, HF, HGR, ⟨HSA.out.2⟩⟩
             case round =>
               clear HF HGR
               obtain ⟨j, rfl, hj, HF, HGR, HSW⟩ := hrel
               by_cases hlt : j < fs.length
               · obtain ⟨go, B, cB, rfl, hva, hx1⟩ := HGR.out.row (j := j) (by rw [HTA.out]; exact hlt)
                 have HVA := Aside0.mk hva
                 obtain ⟨L, hL⟩ : ∃ L, L = (gl fs j).length := ⟨_, rfl⟩
                 have HLL := Aside0.mk hL
                 have hLb : L ≤ 900000000 := by rw [hL]; exact HNA.out j hlt
                 rw [← hL] at hx1
                 have HEX : Aside0 (Ext wr SA (va TA j) (.slice B L cB) L) := ⟨by
                   have := Ext.start HGR.out.pile SA (j := j) (by rw [HTA.out]; exact hlt)
                   rw [hL]
                   rw [hva] at this ⊢
                   exact this⟩
                 clear hva hL
                 go_wp2_with fail
                 clear hx1
                 go_loopw [27, 28] (fun v y ws => ∃ (i M : Nat) (B : Option Addr) (d : Nat), v = .slice B M d ∧ y = .int .i64 (i : Int) ∧ i ≤ 20 ∧ Aside0 (M = L + i) ∧ Aside0 (Mem.Frame (InP TA) w15 ws) ∧ Aside0 (Grid ws w4.heap.size w5.heap.size (some ⟨go, 0, none⟩) TA (fun j => (gl fs j).length) (fun a _ => -100 - (a : Int))) ∧ Aside0 (SA ≤ ws.heap.size) ∧ Aside0 (Ext ws SA (va TA j) (.slice B M d) M)) (fun _ y _ => 20 - (intOf y).toNat)
                 case atStart => exact ⟨0, L, B, cB, rfl, rfl, by omega, ⟨by omega⟩, HF, HGR, HSW, HEX⟩
                 case round =>
                   clear HF HGR HSW HEX
                   obtain ⟨i, M, B, d, rfl, rfl, hi, HMQ, HF, HGR, HSW, HEX⟩ := hrel
                   by_cases hil : i < 20
                   · have s1 : decide ((i : Int) < 20) = true := decide_eq_true (by omega)
                     have hMb : M ≤ 900000020 := by have := HMQ.out; omega
                     have HMM : Aside0 (M ≤ 900000020 ∧ L ≤ M) := ⟨by have := HMQ.out; omega⟩
                     go_wp2_with ((with_reducible refine gate_builtin (b := .append) (xs := #[.tmp 188, .tmp 189]) rfl ?_); at_builtin; refine Pile.append (W := wr) rfl (.tmp 188) (.tmp 189) 36 rfl Try.underlying36 info_int SA j (.slice B M d) M (-5) rfl rfl HGR.out.pile (by rw [HTA.out]; exact hlt) (by rw [← HLL.out]; exact HMM.out.2) HEX.out (by have := HSZ.out; have := HSA.out.1; omega) HSW.out (by have := HMM.out.1; omega) ?_)
                     intro B2 d2 w7 hP hE hFr _ _
                     have HF2 : Aside0 (Mem.Frame (InP TA) w15 w7) := ⟨⟨hFr.os.trans HF.out.os, hFr.tape.trans HF.out.tape, hFr.output.trans HF.out.output, Nat.le_trans HF.out.size hFr.size, fun q hq hs => (hFr.block q (Nat.lt_of_lt_of_le hq HF.out.size) (fun h => by
                       rcases h with h | h
                       · exact hs ⟨j, by rw [HTA.out]; exact hlt, h⟩
                       · have := HSA.out.1; omega)).trans (HF.out.block q hq hs)⟩⟩
                     have HG2 : Aside0 (Grid w7 w4.heap.size w5.heap.size (some ⟨go, 0, none⟩) TA (fun j => (gl fs j).length) (fun a _ => -100 - (a : Int))) := ⟨HGR.out.outer_frame hP hFr (fun g eg h => by
                       have hf := HGR.out.far g eg
                       rcases h with h | h
                       · exact hf.1 ⟨j, by rw [HTA.out]; exact hlt, h⟩
                       · have := HSZ.out; have := HSA.out.1; omega)⟩
                     have HSW2 : Aside0 (SA ≤ w7.heap.size) := ⟨Nat.le_trans HSW.out hFr.size⟩
                     have HEX2 := Aside0.mk hE
                     clear hP hE hFr HF HGR HSW HEX
                     go_wp2_with fail
                     clear s1
                     go_roundw
                     case rel => exact ⟨i + 1, M + 1, B2, d2, rfl, by go_num, by omega, ⟨by have := HMQ.out; omega⟩, HF2, HG2, HSW2, HEX2⟩
                     case measure => simp [intOf]; omega
                   · obtain rfl : i = 20 := by omega
                     go_wp2_with fail
                     go_roundw
                     case rel => exact ⟨j + 1, by go_num, by omega, HF, HGR, HSW⟩
                     case measure => simp [intOf]; omega
               · obtain rfl : j = fs.length := by omega
                 clear HSW hj hlt
                 go_wp2_with fail
                 go_loopw [194] (fun y ws => ∃ (j : Nat), y = .int .i64 (j : Int) ∧ j ≤ fs.length ∧ Aside0 (Mem.Frame (InP TA) w15 ws) ∧ Aside0 (Grid ws w4.heap.size w5.heap.size Aa TA (fun j => (gl fs j).length) (fun a _ => -100 - (a : Int)))) (fun y _ => fs.length - (intOf y).toNat)
                 case atStart => exact ⟨0, rfl, by omega, HF, HGR⟩
                 case round =>
                   clear HF HGR
                   obtain ⟨j, rfl, hj, HF, HGR⟩ := hrel
                   by_cases hlt : j < fs.length
                   · obtain ⟨go, B, cB, rfl, hva, hx1⟩ := HGR.out.row (j := j) (by rw [HTA.out]; exact hlt)
                     have HVA := Aside0.mk hva
                     obtain ⟨L, hL⟩ : ∃ L, L = (gl fs j).length := ⟨_, rfl⟩
                     have HLL := Aside0.mk hL
                     have hLb : L ≤ 900000000 := by rw [hL]; exact HNA.out j hlt
                     rw [← hL] at hx1
                     clear hva hL
                     go_wp2_with fail
                     clear hx1
                     go_loopw [202] (fun y ws => ∃ (i : Nat), y = .int .i64 (i : Int) ∧ i ≤ L ∧ Aside0 (Mem.Frame (InP TA) w15 ws) ∧ Aside0 (Grid ws w4.heap.size w5.heap.size (some ⟨go, 0, none⟩) TA (fun j => (gl fs j).length) (fun a _ => -100 - (a : Int)))) (fun y _ => L - (intOf y).toNat)
                     case atStart => exact ⟨0, rfl, by omega, HF, HGR⟩
                     case round =>
                       clear HF HGR
                       obtain ⟨i, rfl, hi, HF, HGR⟩ := hrel
                       by_cases hil : i < L
                       · obtain ⟨x, hxx⟩ : ∃ x, x = -100 - (j : Int) := ⟨_, rfl⟩
                         have r1 : IntKind.i64.wrap (-100 - (j : Int)) = x := by rw [IntWalk.i64_in _ (by omega)]; exact hxx.symm
                         have t0 : (x != x) = false := bne_eq_false_iff_eq.2 rfl
                         obtain ⟨go2, B2, cB2, eo, e3, hx⟩ := HGR.out.row (j := j) (by rw [HTA.out]; exact hlt)
                         obtain rfl : go = go2 := by injection eo with eo; injection eo
                         obtain ⟨g, c2, e2, z0, _⟩ := (HGR.out.pile.rows j (by rw [HTA.out]; exact hlt)).at (i := i) (by rw [← HLL.out]; exact hil)
                         rw [e3] at e2
                         injection e2 with e4 _ e5
                         subst e4 e5
                         have e6 : (gl fs j).length = L := HLL.out.symm
                         simp only [e6] at hx
                         rw [← hxx] at z0
                         clear e3 e6 eo hxx
                         have hib : i ≤ 900000000 := by omega
                         go_wp2_with fail
                         clear hx z0 r1 t0
                         go_roundw
                         case rel => exact ⟨i + 1, by go_num, by omega, HF, HGR⟩
                         case measure => simp [intOf]; omega
                       · obtain rfl : i = L := by omega
                         go_wp2_with fail
                         go_roundw
                         case rel => exact ⟨j + 1, by go_num, by omega, HF, HGR⟩
                         case measure => simp [intOf]; omega
                   · obtain rfl : j = fs.length := by omega
                     clear hj hlt
                     have hm : ∀ k, InP TA k → w4.heap.size ≤ k ∧ k < w5.heap.size := fun k hk => ⟨(HGR.out.pile.inP hk).1, (HGR.out.pile.inP hk).2.1⟩
                     have hF := HF.out
                     have hz := HSZ.out
                     replace HB := Aside0.mk (HB.out.trans (hF.below HB.out.size (fun k hk => by have := hm k hk; omega)))
                     replace HX := Aside0.mk (hF.blk HX.out (fun hk => by have := hm _ hk; omega))
                     replace HY := Aside0.mk (hF.blk HY.out (fun hk => by have := hm _ hk; omega))
                     replace HG := Aside0.mk (Kd.R_step HG.out (fun k hk hlt => hF.block k hlt (fun q => by have := hm k q; omega)))
                     replace HV2 := Aside0.mk (HV2.out.frame hF (fun k a b q => by have := hm k q; omega))
                     replace HV4 := Aside0.mk (HV4.out.frame hF (fun k a b q => by have := hm k q; omega))
                     replace HU1 := Aside0.mk (HU1.out.frame hF (fun k a b q => by have := hm k q; omega))
                     replace HU2 := Aside0.mk (HU2.out.frame hF (fun k a b q => by have := hm k q; omega))
                     replace HWH := Aside0.mk (Kd.R_step HWH.out (fun k hk hlt => hF.block k hlt (fun q => by have := hm k q; omega)))
                     replace HRT := Aside0.mk (HRT.out.frame hF (fun k hk q => by have := HTS.out k hk; have := hm k q; omega))
                     replace HV3 := Aside0.mk (HV3.out.frame hF (fun k a b q => by have := hm k q; omega))
                     have HSW : Aside0 (w15.heap.size ≤ wr.heap.size) := ⟨hF.size⟩
                     clear hF hm hz HF HGR
                     obtain ⟨w16, hw16⟩ : ∃ w16, w16 = wr := ⟨_, rfl⟩
                     have HF : Aside0 (Mem.Frame (Mine Ac) w16 wr) := ⟨by rw [hw16]; exact Mem.Frame.refl _ _⟩
                     rw [← hw16] at HB HX HY HG HV2 HV4 HU1 HU2 HWH HRT HSW
                     obtain ⟨m, hmm⟩ : ∃ m, m = lf.length := ⟨_, rfl⟩
                     have hmb : m ≤ 900000000 := by rw [hmm]; exact HH.out.b3
                     have HYS : Aside0 (∃ ys : List Int, ys.length = m ∧ Kd.R (Kd.int .i64) 3 wr w6.heap.size (fun _ => True) (.slice Ac m cc) ys) := ⟨lf, hmm.symm, by rw [hmm]; exact HV3.out.own⟩
                     have HM3 : Aside0 (∀ k, Mine Ac k → w6.heap.size ≤ k ∧ k < w7.heap.size) := ⟨fun k hk => HV3.out.mine hk⟩
                     rw [← hmm]
                     have HMM := Aside0.mk hmm
                     clear HV3 hw16 hmm
                     go_wp2_with fail
                     go_loopw [219] (fun y ws => ∃ (i : Nat), y = .int .i64 (i : Int) ∧ i ≤ m ∧ Aside0 (∃ ys : List Int, ys.length = m ∧ Kd.R (Kd.int .i64) 3 ws w6.heap.size (fun _ => True) (.slice Ac m cc) ys) ∧ Aside0 (Mem.Frame (Mine Ac) w16 ws)) (fun y _ => m - (intOf y).toNat)
                     case atStart => exact ⟨0, rfl, by omega, HYS, HF⟩
                     case round =>
                       clear HYS HF
                       obtain ⟨i, rfl, hi, HR, HF⟩ := hrel
                       by_cases hlt : i < m
                       · obtain ⟨ys, hy, hR⟩ := HR.out
                         obtain ⟨g, cap, e1, _, _, cells, hcell⟩ := Kd.R_form hR (by omega)
                         obtain ⟨rfl, rfl, rfl⟩ : Ac = some ⟨g, 0, none⟩ ∧ m = ys.length ∧ cc = cap := by simpa using e1
                         obtain ⟨adD, eD, z0⟩ := Kd.at_int (Kd.R_reads' hR).2.2 (i : Int) (by omega) (by omega)
                         injection eD with eD
                         subst eD
                         rw [Int.toNat_natCast, add_plain] at z0
                         have f0 : wr.frozen? ⟨g, i, none⟩ = false := heap_free hcell i
                         have h2 := Kd.R_put hR (i : Int) (-9)
                         rw [Int.toNat_natCast] at h2
                         have HR2 : Aside0 (∃ zs : List Int, zs.length = ys.length ∧ Kd.R (Kd.int .i64) 3 (wr.setCell ⟨g, i, none⟩ (.int .i64 (-9))) w6.heap.size (fun _ => True) (.slice (some ⟨g, 0, none⟩) ys.length cc) zs) := ⟨_, by rw [List.length_set], h2.1⟩
                         have HF2 : Aside0 (Mem.Frame (Mine (some ⟨g, 0, none⟩)) w16 (wr.setCell ⟨g, i, none⟩ (.int .i64 (-9)))) := ⟨HF.out.setCell (p := ⟨g, i, none⟩) ⟨_, rfl, rfl⟩ _⟩
                         clear hR hcell e1 h2 HR HF
                         go_wp2_with fail
                         clear z0 f0
                         go_roundw
                         case rel => exact ⟨i + 1, by go_num, by omega, HR2, HF2⟩
                         case measure => simp [intOf]; omega
                       · obtain rfl : i = m := by omega
                         obtain rfl := HMM.out
                         clear HR hi hlt HMM
                         have hm := HM3.out
                         have hF := HF.out
                         have hz := HSZ.out
                         replace HB := Aside0.mk (HB.out.trans (hF.below HB.out.size (fun k hk => by have := hm k hk; omega)))
                         replace HX := Aside0.mk (hF.blk HX.out (fun hk => by have := hm _ hk; omega))
                         replace HY := Aside0.mk (hF.blk HY.out (fun hk => by have := hm _ hk; omega))
                         replace HG := Aside0.mk (Kd.R_step HG.out (fun k hk hlt => hF.block k hlt (fun q => by have := hm k q; omega)))
                         replace HV2 := Aside0.mk (HV2.out.frame hF (fun k a b q => by have := hm k q; omega))
                         replace HV4 := Aside0.mk (HV4.out.frame hF (fun k a b q => by have := hm k q; omega))
                         replace HU1 := Aside0.mk (HU1.out.frame hF (fun k a b q => by have := hm k q; omega))
                         replace HU2 := Aside0.mk (HU2.out.frame hF (fun k a b q => by have := hm k q; omega))
                         replace HWH := Aside0.mk (Kd.R_step HWH.out (fun k hk hlt => hF.block k hlt (fun q => by have := hm k q; omega)))
                         replace HRT := Aside0.mk (HRT.out.frame hF (fun k hk q => by have := HTS.out k hk; have := hm k q; omega))
                         clear hF hm hz HF HM3 HSW HSA
                         go_wp2_with fail
                         obtain ⟨w19, hw19⟩ : ∃ w19, w19 = wr := ⟨_, rfl⟩
                         have HF : Aside0 (Mem.Frame (InT T) w19 wr) := ⟨by rw [hw19]; exact Mem.Frame.refl _ _⟩
                         rw [← hw19] at HB HX HY HG HV2 HV4 HU1 HU2 HWH
                         clear hw19
                         go_loopw [228] (fun y ws => ∃ (j : Nat), y = .int .i64 (j : Int) ∧ j ≤ r.length ∧ Aside0 (Mem.Frame (InT T) w19 ws) ∧ Aside0 (RowsT ws B0 r T)) (fun y _ => r.length - (intOf y).toNat)
                         case atStart => exact ⟨0, rfl, by omega, HF, HRT⟩
                         case round =>
                           clear HF HRT
                           obtain ⟨j, rfl, hj, HF, HRT⟩ := hrel
                           by_cases hlt : j < r.length
                           · have hjT : j < T.length := by rw [HTT.out]; exact hlt
                             obtain ⟨adw, eW, hx1⟩ := whole_at HWH.out hjT
                             subst eW
                             obtain ⟨gw, rfl⟩ := Kd.R_head HWH.out
                             rw [add_plain] at hx1
                             have hni := (HWH.out.1 gw rfl).2.2
                             obtain ⟨g, hg⟩ : ∃ g, g = (tb T j).1 := ⟨_, rfl⟩
                             obtain ⟨ct, hct⟩ : ∃ ct, ct = (tb T j).2 := ⟨_, rfl⟩
                             obtain ⟨L, hL⟩ : ∃ L, L = (gl r j).length + 2 := ⟨_, rfl⟩
                             unfold sl at hx1
                             rw [← hg, ← hct, ← hL] at hx1
                             have HCW : Aside0 (∀ wz, Mem.Frame (InT T) w19 wz → wz.cell? ⟨gw, j, none⟩ = some (.slice (some ⟨g, 0, none⟩) L ct)) := ⟨fun wz f => (World.cell?_of_block (f.block _ (cell_lt hx1) hni)).trans hx1⟩
                             have HLL : Aside0 (L = (gl r j).length + 2 ∧ g = (tb T j).1 ∧ j < T.length) := ⟨hL, hg, hjT⟩
                             have hLb : L ≤ 20000000000000 := by have := HLEN.out j hlt; omega
                             have hx := HCW.out wr HF.out
                             clear hx1 hni hg hct hL hjT
                             go_wp2_with fail
                             clear hx
                             go_loopw [236] (fun y ws => ∃ (i : Nat), y = .int .i64 (i : Int) ∧ i ≤ L ∧ Aside0 (Mem.Frame (InT T) w19 ws) ∧ Aside0 (RowsT ws B0 r T)) (fun y _ => L - (intOf y).toNat)
                             case atStart => exact ⟨0, rfl, by omega, HF, HRT⟩
                             case round =>
                               clear HF HRT
                               obtain ⟨i, rfl, hi, HF, HRT⟩ := hrel
                               by_cases hil : i < L
                               · have hx := HCW.out wr HF.out
                                 obtain ⟨h1, ⟨y0, z0⟩, f0⟩ := HRT.out.put HRISE.out (i := i) HLL.out.2.2 (by have := HLL.out.1; omega) (-3)
                                 have HF2 := Aside0.mk (HF.out.setCell (p := ⟨(tb T j).1, i, none⟩) ⟨j, HLL.out.2.2, rfl⟩ (.int .i64 (-3)))
                                 rw [← HLL.out.2.1] at h1 z0 f0
                                 have HRT2 := Aside0.mk h1
                                 rw [← HLL.out.2.1] at HF2
                                 clear h1 HF HRT
                                 go_wp2_with fail
                                 clear hx z0 f0
                                 go_roundw
                                 case rel => exact ⟨i + 1, by go_num, by omega, HF2, HRT2⟩
                                 case measure => simp [intOf]; omega
                               · obtain rfl : i = L := by omega
                                 go_wp2_with fail
                                 go_roundw
                                 case rel => exact ⟨j + 1, by go_num, by omega, HF, HRT⟩
                                 case measure => simp [intOf]; omega
                           · obtain rfl : j = r.length := by omega
                             have hF := HF.out
                             have hm := fun k (hk : InT T k) => HTS.out k hk
                             have hz := HSZ.out
                             replace HB := Aside0.mk (HB.out.trans (hF.below HB.out.size (fun k hk => by have := hm k hk; omega)))
                             replace HX := Aside0.mk (hF.blk HX.out (fun hk => by have := hm _ hk; omega))
                             replace HY := Aside0.mk (hF.blk HY.out (fun hk => by have := hm _ hk; omega))
                             replace HG := Aside0.mk (Kd.R_step HG.out (fun k hk hlt => hF.block k hlt (fun q => by have := hm k q; omega)))
                             replace HV2 := Aside0.mk (HV2.out.frame hF (fun k a b q => by have := hm k q; omega))
                             replace HV4 := Aside0.mk (HV4.out.frame hF (fun k a b q => by have := hm k q; omega))
                             replace HU1 := Aside0.mk (HU1.out.frame hF (fun k a b q => by have := hm k q; omega))
                             replace HU2 := Aside0.mk (HU2.out.frame hF (fun k a b q => by have := hm k q; omega))
                             clear hF hm hz HF HRT
                             have x0 : wr.cell? ⟨b1, 0, none⟩ = some (.int .i64 n) := heap_cell HX.out rfl
                             have x1 : wr.cell? ⟨b1, 1, none⟩ = some (.slice A l.length c) := heap_cell HX.out rfl
                             have y0 : wr.cell? ⟨bh, 0, none⟩ = some (.int .i64 n) := heap_cell HY.out rfl
                             have y1 : wr.cell? ⟨bh, 1, none⟩ = some (.slice Ag l.length cg) := heap_cell HY.out rfl
                             go_wp2_with fail
                             clear y0 y1
                             clear x0 x1
                             refine (tangramref03_Equal.calls k n Ag cg l n A c l true wr (Kd.R_reads' HG.out).2.2 HGL.out (Kd.C_below HRR.out HB.out) HCC.out HH.out.eq).mono ?_
                             rintro e' w20 ⟨rfl, hd⟩
                             have hb := hd
                             replace HB := Aside0.mk (HB.out.trans (hb.mono HB.out.size))
                             replace HV2 := Aside0.mk (HV2.out.below hb)
                             replace HV4 := Aside0.mk (HV4.out.below hb)
                             replace HU1 := Aside0.mk (HU1.out.below hb)
                             replace HU2 := Aside0.mk (HU2.out.below hb)
                             clear hb hd
                             go_wp2_with fail
                             refine (tangramref03_SameLists.calls k Ab cb fs Ea da fs true w20 HV2.out.reads.1 HV2.out.reads.2 HU1.out.reads.1 HU1.out.reads.2 HH.out.s1).mono ?_
                             rintro e' w21 ⟨rfl, hd⟩
                             have hb := hd.below
                             replace HB := Aside0.mk (HB.out.trans (hb.mono HB.out.size))
                             replace HV2 := Aside0.mk (HV2.out.below hb)
                             replace HV4 := Aside0.mk (HV4.out.below hb)
                             replace HU1 := Aside0.mk (HU1.out.below hb)
                             replace HU2 := Aside0.mk (HU2.out.below hb)
                             clear hb hd
                             go_wp2_with fail
                             refine (tangramref03_SameInts.calls k Ad cd lf Ec dc lf true w21 HV4.out.reads.1 HV4.out.reads.2 HU2.out.reads.1 HU2.out.reads.2 HH.out.s2).mono ?_
                             rintro e' w22 ⟨rfl, hd⟩
                             have hb := hd.below
                             replace HB := Aside0.mk (HB.out.trans (hb.mono HB.out.size))
                             replace HV2 := Aside0.mk (HV2.out.below hb)
                             replace HV4 := Aside0.mk (HV4.out.below hb)
                             replace HU1 := Aside0.mk (HU1.out.below hb)
                             replace HU2 := Aside0.mk (HU2.out.below hb)
                             clear hb hd
                             go_wp2_with fail
                             go_ret
                             exact ⟨by simp, HB.out⟩
end Go.Proofs.Ytmikcfddipldnaa.Own
namespace Go.Proofs.Ytmikcfddipldnaa.Ring
set_option linter.unusedVariables false
set_option linter.unusedSimpArgs false
def Lead (f : Nat → Nat) (l : List Nat) (b : Nat) : Prop := l.map f = l.tail ++ [b]
def Ring (f : Nat → Nat) (l : List Nat) : Prop := l ≠ [] ∧ Lead f l (l.headD 0)
theorem lead_append {f : Nat → Nat} {a b c : Nat} {x y : List Nat} : Lead f (a :: x ++ b :: y) c ↔ Lead f (a :: x) b ∧ Lead f (b :: y) c := by
 unfold Lead
 constructor
 · intro h
   have h2 : (a :: x).map f ++ (b :: y).map f = (x ++ [b]) ++ (y ++ [c]) := by
     rw [← List.map_append, h]; simp
   have h3 := List.append_inj h2 (by simp)
   exact ⟨by rw [h3.1]; rfl, by rw [h3.2]; rfl⟩
 · rintro ⟨h1, h2⟩
   rw [List.map_append, h1, h2]; simp
theorem ring_cons {f : Nat → Nat} {a : Nat} {t : List Nat} : Ring f (a :: t) ↔ Lead f (a :: t) a := by
 unfold Ring; simp
theorem Ring.turn {f : Nat → Nat} {x y : List Nat} (h : Ring f (x ++ y)) : Ring f (y ++ x) := by
 cases x with
 | nil => simpa using h
 | cons a x =>
   cases y with
   | nil => simpa using h
   | cons b y =>
     have h1 : Ring f (a :: (x ++ b :: y)) := h
     rw [ring_cons] at h1
     have h2 := lead_append.1 (show Lead f (a :: x ++ b :: y) a from h1)
     show Ring f (b :: (y ++ a :: x))
     rw [ring_cons]
     exact lead_append.2 ⟨h2.2, h2.1⟩
theorem lead_congr {f g : Nat → Nat} {l : List Nat} {b : Nat} (h : ∀ x ∈ l, g x = f x) (hl : Lead f l b) : Lead g l b := by
 unfold Lead at hl ⊢
 rw [← hl]
 exact List.map_congr_left h
theorem Ring.congr {f g : Nat → Nat} {l : List Nat} (h : ∀ x ∈ l, g x = f x) (hl : Ring f l) : Ring g l := ⟨hl.1, lead_congr h hl.2⟩
theorem lead_swap {f g : Nat → Nat} {a b c : Nat} {x : List Nat} (hgb : g b = f a) (hx : ∀ y ∈ x, g y = f y) (h : Lead f (a :: x) c) : Lead g (b :: x) c := by
 unfold Lead at h ⊢
 rw [List.map_cons] at h ⊢
 rw [hgb, List.map_congr_left hx]
 exact h
structure Dec (f : Nat → Nat) (L : List (List Nat)) : Prop where
 ring : ∀ l ∈ L, Ring f l
 nodup : L.flatten.Nodup
theorem Dec.perm {f : Nat → Nat} {L L' : List (List Nat)} (h : Dec f L) (hp : L.Perm L') : Dec f L' :=
 ⟨fun l hl => h.ring l (hp.mem_iff.2 hl), (hp.flatten.nodup_iff).1 h.nodup⟩
theorem Dec.congr {f g : Nat → Nat} {L : List (List Nat)} (h : Dec f L) (hg : ∀ x ∈ L.flatten, g x = f x) : Dec g L :=
 ⟨fun l hl => (h.ring l hl).congr fun x hx => hg x (List.mem_flatten.2 ⟨l, hl, hx⟩), h.nodup⟩
theorem Dec.front {f : Nat → Nat} {L : List (List Nat)} {a : Nat} {l : List Nat} (h : Dec f L) (hl : l ∈ L) (ha : a ∈ l) : ∃ t L1, Dec f ((a :: t) :: L1) ∧ l.Perm (a :: t) ∧ L.Perm (l :: L1) := by
 obtain ⟨s, u, rfl⟩ := List.append_of_mem hl
 obtain ⟨x, y, rfl⟩ := List.append_of_mem ha
 have hp : (s ++ (x ++ a :: y) :: u).Perm ((x ++ a :: y) :: (s ++ u)) := List.perm_middle
 have h1 := h.perm hp
 refine ⟨y ++ x, s ++ u, ⟨fun l hl => ?_, ?_⟩, ?_, hp⟩
 · rcases List.mem_cons.1 hl with rfl | hl
   · exact (h1.ring _ (List.mem_cons_self ..)).turn
   · exact h1.ring _ (List.mem_cons_of_mem _ hl)
 · have q : ((x ++ a :: y) ++ (s ++ u).flatten).Perm ((a :: (y ++ x)) ++ (s ++ u).flatten) := List.Perm.append_right _ (by
     have := List.perm_append_comm (l₁ := x) (l₂ := a :: y)
     simpa using this)
   have h2 := h1.nodup
   rw [List.flatten_cons] at h2 ⊢
   exact q.nodup_iff.1 h2
 · have := List.perm_append_comm (l₁ := x) (l₂ := a :: y)
   simpa using this
def Within (R : Nat → Nat) (L : List (List Nat)) : Prop := ∀ l ∈ L, ∀ x ∈ l, ∀ y ∈ l, R x = R y
theorem Within.perm {R : Nat → Nat} {L L' : List (List Nat)} (h : Within R L) (hp : L.Perm L') : Within R L' := fun l hl => h l (hp.mem_iff.2 hl)
theorem Dec.swap {f g : Nat → Nat} {L : List (List Nat)} {a b : Nat} (h : Dec f L) (ha : a ∈ L.flatten) (hb : b ∈ L.flatten) (hab : a ≠ b) (hga : g a = f b) (hgb : g b = f a) (hg : ∀ x, x ≠ a → x ≠ b → g x = f x) :
   ∃ L', Dec g L' ∧ L'.flatten.Perm L.flatten ∧ (∀ R : Nat → Nat, R a = R b → Within R L → Within R L') ∧
     ((L'.length = L.length + 1 ∧ ∃ l ∈ L, a ∈ l ∧ b ∈ l) ∨ L'.length + 1 = L.length) := by
 obtain ⟨l, hl, hal⟩ := List.mem_flatten.1 ha
 obtain ⟨t, L1, h1, hp1, hp2⟩ := h.front hl hal
 have hf2 : ((a :: t) :: L1).flatten.Perm L.flatten := by
   refine List.Perm.trans ?_ hp2.flatten.symm
   rw [List.flatten_cons, List.flatten_cons]
   exact List.Perm.append_right _ hp1.symm
 have hnd := h1.nodup
 rw [List.flatten_cons] at hnd
 have hlen := hp2.length_eq
 rw [List.length_cons] at hlen
 have hW : ∀ R : Nat → Nat, Within R L → Within R ((a :: t) :: L1) := by
   intro R hR l2 hl2
   rcases List.mem_cons.1 hl2 with rfl | hl2
   · intro x hx y hy
     exact hR l hl x (hp1.mem_iff.2 hx) y (hp1.mem_iff.2 hy)
   · exact hR l2 (hp2.mem_iff.2 (List.mem_cons_of_mem _ hl2))
 by_cases hbt : b ∈ t
 · obtain ⟨x, y, rfl⟩ := List.append_of_mem hbt
   have hr := h1.ring _ (List.mem_cons_self ..)
   rw [ring_cons] at hr
   obtain ⟨r1, r2⟩ := lead_append.1 (show Lead f (a :: x ++ b :: y) a from hr)
   have hnd1 := hnd
   rw [List.nodup_append] at hnd1
   obtain ⟨n1, n2, n3⟩ := hnd1
   have m1 : ∀ z ∈ x, z ≠ a ∧ z ≠ b := by
     intro z hz
     rw [List.nodup_cons, List.nodup_append] at n1
     obtain ⟨k1, k2, k3, k4⟩ := n1
     exact ⟨fun e => k1 (by rw [← e]; simp [hz]), k4 z hz b (List.mem_cons_self ..)⟩
   have m2 : ∀ z ∈ y, z ≠ a ∧ z ≠ b := by
     intro z hz
     rw [List.nodup_cons, List.nodup_append, List.nodup_cons] at n1
     obtain ⟨k1, k2, ⟨k3, _⟩, k4⟩ := n1
     exact ⟨fun e => k1 (by rw [← e]; simp [hz]), fun e => k3 (by rw [← e]; exact hz)⟩
   have q : ((b :: x) ++ ((a :: y) ++ L1.flatten)).Perm ((a :: (x ++ b :: y)) ++ L1.flatten) := by
     rw [← List.append_assoc]
     refine List.Perm.append_right _ ?_
     have e1 : ((b :: x) ++ (a :: y)).Perm (a :: ((b :: x) ++ y)) := List.perm_middle
     have e2 : ((b :: x) ++ y).Perm (x ++ b :: y) := (List.perm_middle (a := b) (l₁ := x) (l₂ := y)).symm
     exact e1.trans (e2.cons a)
   refine ⟨(b :: x) :: (a :: y) :: L1, ⟨fun l2 hl2 => ?_, ?_⟩, ?_, fun R hab2 hR => ?_, .inl ⟨by simp; omega, l, hl, hal, hp1.mem_iff.2 (by simp)⟩⟩
   · rcases List.mem_cons.1 hl2 with rfl | hl2
     · rw [ring_cons]
       exact lead_swap hgb (fun z hz => hg z (m1 z hz).1 (m1 z hz).2) r1
     · rcases List.mem_cons.1 hl2 with rfl | hl2
       · rw [ring_cons]
         exact lead_swap hga (fun z hz => hg z (m2 z hz).1 (m2 z hz).2) r2
       · refine (h1.ring _ (List.mem_cons_of_mem _ hl2)).congr fun z hz => ?_
         have hz2 : z ∈ L1.flatten := List.mem_flatten.2 ⟨l2, hl2, hz⟩
         exact hg z (fun e => n3 a (by simp) z hz2 e.symm) (fun e => n3 b (by simp) z hz2 e.symm)
   · rw [List.flatten_cons, List.flatten_cons]
     exact q.nodup_iff.2 hnd
   · rw [List.flatten_cons, List.flatten_cons]
     rw [List.flatten_cons] at hf2
     exact q.trans hf2
   · have h3 := hW R hR
     have h4 := h3 _ (List.mem_cons_self ..)
     intro l2 hl2
     rcases List.mem_cons.1 hl2 with rfl | hl2
     · intro u hu v hv
       refine h4 u ?_ v ?_
       · rcases List.mem_cons.1 hu with rfl | hu <;> simp_all
       · rcases List.mem_cons.1 hv with rfl | hv <;> simp_all
     · rcases List.mem_cons.1 hl2 with rfl | hl2
       · intro u hu v hv
         refine h4 u ?_ v ?_
         · rcases List.mem_cons.1 hu with rfl | hu <;> simp_all
         · rcases List.mem_cons.1 hv with rfl | hv <;> simp_all
       · exact h3 l2 (List.mem_cons_of_mem _ hl2)
 · have hb2 : b ∈ L1.flatten := by
     have := hf2.mem_iff.2 hb
     rw [List.flatten_cons] at this
     rcases List.mem_append.1 this with q | q
     · rcases List.mem_cons.1 q with q | q
       · exact absurd q.symm hab
       · exact absurd q hbt
     · exact q
   obtain ⟨l2, hl2, hbl⟩ := List.mem_flatten.1 hb2
   have hp3 : ((a :: t) :: L1).Perm (L1 ++ [a :: t]) := by
     have := List.perm_append_comm (l₁ := [a :: t]) (l₂ := L1)
     simpa using this
   obtain ⟨u, L2, h2, hp4, hp5⟩ := (h1.perm hp3).front (l := l2) (by simp [hl2]) hbl
   have hat : (a :: t) ∈ L2 := by
     have h6 : (a :: t) ∈ l2 :: L2 := hp5.mem_iff.1 (by simp)
     rcases List.mem_cons.1 h6 with q | q
     · exfalso
       rw [← q] at hbl
       rcases List.mem_cons.1 hbl with q | q
       · exact hab q.symm
       · exact hbt q
     · exact q
   obtain ⟨s1, s2, rfl⟩ := List.append_of_mem hat
   have hp6 : ((b :: u) :: (s1 ++ (a :: t) :: s2)).Perm ((b :: u) :: (a :: t) :: (s1 ++ s2)) := List.Perm.cons _ List.perm_middle
   have h3 := h2.perm hp6
   have hnd3 := h3.nodup
   rw [List.flatten_cons, List.flatten_cons] at hnd3
   have hlen2 := hp3.length_eq
   have hlen3 := hp5.length_eq
   have rb := h3.ring _ (List.mem_cons_self ..)
   have ra := h3.ring _ (List.mem_cons_of_mem _ (List.mem_cons_self ..))
   rw [ring_cons] at ra rb
   have hnd4 := hnd3
   rw [List.nodup_append, List.nodup_append] at hnd4
   obtain ⟨n1, ⟨n2, n3, n4⟩, n5⟩ := hnd4
   have q : ((a :: u ++ b :: t) ++ (s1 ++ s2).flatten).Perm ((b :: u) ++ ((a :: t) ++ (s1 ++ s2).flatten)) := by
     rw [← List.append_assoc]
     refine List.Perm.append_right _ ?_
     have e1 : ((b :: u) ++ (a :: t)).Perm (a :: ((b :: u) ++ t)) := List.perm_middle
     have e2 : (u ++ b :: t).Perm (b :: (u ++ t)) := List.perm_middle
     exact (e2.cons a).trans e1.symm
   have hff : ((b :: u) ++ ((a :: t) ++ (s1 ++ s2).flatten)).Perm L.flatten := by
     have e0 := hp6.flatten
     rw [List.flatten_cons, List.flatten_cons, List.flatten_cons] at e0
     refine e0.symm.trans ?_
     have e1 := hp5.flatten
     rw [List.flatten_cons] at e1
     refine List.Perm.trans (List.Perm.append_right _ hp4.symm) ?_
     exact e1.symm.trans (hp3.flatten.symm.trans hf2)
   refine ⟨(a :: u ++ b :: t) :: (s1 ++ s2), ⟨fun l3 hl3 => ?_, ?_⟩, ?_, fun R hab2 hR => ?_, .inr ?_⟩
   · rcases List.mem_cons.1 hl3 with rfl | hl3
     · show Ring g (a :: (u ++ b :: t))
       rw [ring_cons]
       refine lead_append.2 ⟨lead_swap hga (fun z hz => ?_) rb, lead_swap hgb (fun z hz => ?_) ra⟩
       · rw [List.nodup_cons] at n1
         exact hg z (fun e => n5 z (List.mem_cons_of_mem _ hz) a (by simp) e) (fun e => n1.1 (by rw [← e]; exact hz))
       · rw [List.nodup_cons] at n2
         exact hg z (fun e => n2.1 (by rw [← e]; exact hz)) (fun e => n5 b (List.mem_cons_self ..) z (by simp [hz]) e.symm)
     · refine (h3.ring _ (List.mem_cons_of_mem _ (List.mem_cons_of_mem _ hl3))).congr fun z hz => ?_
       have hz2 : z ∈ (s1 ++ s2).flatten := List.mem_flatten.2 ⟨l3, hl3, hz⟩
       exact hg z (fun e => n4 a (List.mem_cons_self ..) z hz2 e.symm) (fun e => n5 b (List.mem_cons_self ..) z (List.mem_append_right _ hz2) e.symm)
   · rw [List.flatten_cons]
     exact q.nodup_iff.2 hnd3
   · rw [List.flatten_cons]
     exact q.trans hff
   · have h4 := hW R hR
     have h5 := h4.perm hp3
     have h6 := h5.perm hp5
     have k1 := h6 _ (List.mem_cons_self ..)
     have k2 := h6 _ (List.mem_cons_of_mem _ hat)
     intro l3 hl3
     rcases List.mem_cons.1 hl3 with rfl | hl3
     · have key : ∀ z ∈ (a :: u ++ b :: t), R z = R a := by
         intro z hz
         rcases List.mem_append.1 hz with hz | hz
         · rcases List.mem_cons.1 hz with rfl | hz
           · rfl
           · rw [hab2]
             exact k1 z (hp4.mem_iff.2 (List.mem_cons_of_mem _ hz)) b (hp4.mem_iff.2 (List.mem_cons_self ..))
         · rcases List.mem_cons.1 hz with rfl | hz
           · exact hab2.symm
           · exact k2 z (List.mem_cons_of_mem _ hz) a (List.mem_cons_self ..)
       intro x hx y hy
       rw [key x hx, key y hy]
     · exact h6 l3 (List.mem_cons_of_mem _ (by
         rcases List.mem_append.1 hl3 with q | q
         · exact List.mem_append_left _ q
         · exact List.mem_append_right _ (List.mem_cons_of_mem _ q)))
   · simp only [List.length_cons, List.length_append] at *
     omega
def nth (f : Nat → Nat) (x : Nat) : Nat → Nat
 | 0 => x
 | k + 1 => f (nth f x k)
theorem lead_nth {f : Nat → Nat} {b : Nat} : ∀ (l : List Nat) (x : Nat), Lead f (x :: l) b → ∀ y ∈ x :: l, ∃ k, y = nth f x k
 | [], x, _, y, hy => ⟨0, by simpa [nth] using hy⟩
 | z :: l, x, h, y, hy => by
   have h1 := lead_append.1 (show Lead f ([x] ++ z :: l) b from h)
   rcases List.mem_cons.1 hy with rfl | hy
   · exact ⟨0, rfl⟩
   · obtain ⟨k, hk⟩ := lead_nth l z h1.2 y hy
     have e : f x = z := by
       have := h1.1
       unfold Lead at this
       simpa using this
     refine ⟨k + 1, ?_⟩
     have key : ∀ k, nth f z k = nth f x (k + 1) := by
       intro k
       induction k with
       | zero => exact e.symm
       | succ k ih => show f (nth f z k) = f (nth f x (k + 1)); rw [ih]
     rw [hk, key]
theorem Ring.closed {f : Nat → Nat} {l : List Nat} (h : Ring f l) {x : Nat} (hx : x ∈ l) : f x ∈ l := by
 obtain ⟨h1, h2⟩ := h
 cases l with
 | nil => exact absurd rfl h1
 | cons a t =>
   unfold Lead at h2
   have : f x ∈ (a :: t).map f := List.mem_map.2 ⟨x, hx, rfl⟩
   rw [h2] at this
   simpa [or_comm] using this
theorem Ring.nth {f : Nat → Nat} {l : List Nat} (h : Ring f l) {x : Nat} (hx : x ∈ l) : ∀ k, nth f x k ∈ l
 | 0 => hx
 | k + 1 => h.closed (Ring.nth h hx k)
theorem Ring.sub {f : Nat → Nat} {l m : List Nat} (h : Ring f l) (k : Ring f m) {x : Nat} (hx : x ∈ l) (hy : x ∈ m) : ∀ y ∈ l, y ∈ m := by
 obtain ⟨u, v, rfl⟩ := List.append_of_mem hx
 have h1 := h.turn
 intro y hy2
 have h2 : Ring f (x :: (v ++ u)) := h1
 rw [ring_cons] at h2
 obtain ⟨j, rfl⟩ := lead_nth _ _ h2 y (by simp at hy2 ⊢; rcases hy2 with q | q | q <;> simp [q])
 exact k.nth hy j
theorem perm_of_same {l m : List Nat} (hl : l.Nodup) (hm : m.Nodup) (h : ∀ x, x ∈ l ↔ x ∈ m) : l.Perm m := (List.perm_ext_iff_of_nodup hl hm).2 h
theorem Dec.unique {f : Nat → Nat} {α : Type} (φ : List Nat → α) (hφ : ∀ l m, l.Perm m → φ l = φ m) : ∀ (L M : List (List Nat)), Dec f L → Dec f M → L.flatten.Perm M.flatten → (L.map φ).Perm (M.map φ)
 | [], [], _, _, _ => List.Perm.refl _
 | [], m :: M, _, h2, hp => by
   exfalso
   have h3 := h2.ring m (List.mem_cons_self ..)
   have h4 := hp.length_eq
   simp only [List.flatten_nil, List.length_nil, List.flatten_cons, List.length_append] at h4
   exact h3.1 (List.length_eq_zero_iff.1 (by omega))
 | l :: L, M, h1, h2, hp => by
   have hr := h1.ring l (List.mem_cons_self ..)
   obtain ⟨x, hx⟩ := List.exists_mem_of_ne_nil l hr.1
   have hxM : x ∈ M.flatten := hp.mem_iff.1 (List.mem_flatten.2 ⟨l, List.mem_cons_self .., hx⟩)
   obtain ⟨m, hm, hxm⟩ := List.mem_flatten.1 hxM
   have hrm := h2.ring m hm
   obtain ⟨s, u, rfl⟩ := List.append_of_mem hm
   have hpm : (s ++ m :: u).Perm (m :: (s ++ u)) := List.perm_middle
   have h2' := h2.perm hpm
   have n1 := h1.nodup
   have n2 := h2'.nodup
   rw [List.flatten_cons, List.nodup_append] at n1 n2
   have hlm : l.Perm m := perm_of_same n1.1 n2.1 (fun y => ⟨hr.sub hrm hx hxm y, hrm.sub hr hxm hx y⟩)
   have hp2 : (l ++ L.flatten).Perm (m ++ (s ++ u).flatten) := by
     have e := hp.trans hpm.flatten
     rw [List.flatten_cons, List.flatten_cons] at e
     exact e
   have hp3 : L.flatten.Perm (s ++ u).flatten := by
     have e := hp2.trans (List.Perm.append_right _ hlm.symm)
     exact (List.perm_append_left_iff l).1 e
   have ih := Dec.unique φ hφ L (s ++ u) ⟨fun y hy => h1.ring y (List.mem_cons_of_mem _ hy), n1.2.1⟩ ⟨fun y hy => h2'.ring y (List.mem_cons_of_mem _ hy), n2.2.1⟩ hp3
   rw [List.map_cons, hφ l m hlm]
   refine List.Perm.trans (List.Perm.cons _ ih) ?_
   rw [← List.map_cons]
   exact (hpm.map φ).symm
def twn (x : Nat) : Nat := if x % 2 = 0 then x + 1 else x - 1
def upTo (f : Nat → Nat) (t : Nat) (x : Nat) : Nat := if x < 2 * t then f (twn x) else f x
theorem upTo_zero (f : Nat → Nat) : upTo f 0 = f := by funext x; unfold upTo; rw [if_neg (by omega)]
theorem upTo_a (f : Nat → Nat) (t : Nat) : upTo f (t + 1) (2 * t) = upTo f t (2 * t + 1) := by
 unfold upTo twn; rw [if_pos (by omega), if_pos (by omega), if_neg (by omega)]
theorem upTo_b (f : Nat → Nat) (t : Nat) : upTo f (t + 1) (2 * t + 1) = upTo f t (2 * t) := by
 unfold upTo twn; rw [if_pos (by omega), if_neg (by omega), if_neg (by omega)]; rfl
theorem upTo_other (f : Nat → Nat) (t x : Nat) (h1 : x ≠ 2 * t) (h2 : x ≠ 2 * t + 1) : upTo f (t + 1) x = upTo f t x := by
 unfold upTo
 by_cases c : x < 2 * t
 · rw [if_pos (by omega), if_pos c]
 · rw [if_neg (by omega), if_neg c]
def inn (F : List Nat) (t : Nat) : Nat := (List.range t).countP fun e => decide (2 * e ∈ F)
theorem inn_succ (F : List Nat) (t : Nat) : inn F (t + 1) = inn F t + if 2 * t ∈ F then 1 else 0 := by
 unfold inn
 rw [List.range_succ, List.countP_append]
 by_cases h : 2 * t ∈ F <;> simp [h]
theorem parity {f : Nat → Nat} {L : List (List Nat)} (h : Dec f L) (he : ∀ e, 2 * e ∈ L.flatten ↔ 2 * e + 1 ∈ L.flatten) : ∀ t, ∃ L', Dec (upTo f t) L' ∧ L'.flatten.Perm L.flatten ∧ (L'.length + L.length + inn L.flatten t) % 2 = 0 ∧ L.length ≤ L'.length + inn L.flatten t
 | 0 => ⟨L, by rw [upTo_zero]; exact h, List.Perm.refl _, by simp [inn]; omega, by simp [inn]⟩
 | t + 1 => by
   obtain ⟨L1, h1, h2, h3, h4⟩ := parity h he t
   rw [inn_succ]
   by_cases c : 2 * t ∈ L.flatten
   · obtain ⟨L2, k1, k2, _, k3⟩ := h1.swap (g := upTo f (t + 1)) (a := 2 * t) (b := 2 * t + 1) (h2.mem_iff.2 c) (h2.mem_iff.2 ((he t).1 c)) (by omega) (upTo_a f t) (upTo_b f t) (upTo_other f t)
     rw [if_pos c]
     refine ⟨L2, k1, k2.trans h2, ?_, ?_⟩
     · rcases k3 with ⟨k3, _⟩ | k3 <;> omega
     · rcases k3 with ⟨k3, _⟩ | k3 <;> omega
   · rw [if_neg c]
     refine ⟨L1, h1.congr fun x hx => upTo_other f t x (fun e => c (h2.mem_iff.1 (by rw [← e]; exact hx))) (fun e => c ((he t).2 (h2.mem_iff.1 (by rw [← e]; exact hx)))), h2, h3, h4⟩
end Go.Proofs.Ytmikcfddipldnaa.Ring
namespace Go.Proofs.Ytmikcfddipldnaa.Ring
set_option linter.unusedVariables false
set_option linter.unusedSimpArgs false
theorem ring_perm {f : Nat → Nat} {l : List Nat} (h : Ring f l) : (l.map f).Perm l := by
 obtain ⟨h1, h2⟩ := h
 cases l with
 | nil => exact absurd rfl h1
 | cons a t =>
   unfold Lead at h2
   rw [h2]
   simp
theorem Dec.map_perm {f : Nat → Nat} : ∀ {L : List (List Nat)}, Dec f L → (L.flatten.map f).Perm L.flatten
 | [], _ => List.Perm.refl _
 | l :: L, h => by
   have hn := h.nodup
   rw [List.flatten_cons, List.nodup_append] at hn
   rw [List.flatten_cons, List.map_append]
   exact (ring_perm (h.ring l (List.mem_cons_self ..))).append (Dec.map_perm ⟨fun m hm => h.ring m (List.mem_cons_of_mem _ hm), hn.2.1⟩)
theorem inj_of_nodup {f : Nat → Nat} : ∀ {l : List Nat}, (l.map f).Nodup → ∀ x ∈ l, ∀ y ∈ l, f x = f y → x = y
 | [], _, x, hx, _, _, _ => absurd hx (by simp)
 | a :: l, h, x, hx, y, hy, e => by
   rw [List.map_cons, List.nodup_cons] at h
   rcases List.mem_cons.1 hx with hx | hx <;> rcases List.mem_cons.1 hy with hy | hy
   · rw [hx, hy]
   · rw [hx] at e
     exact absurd (List.mem_map.2 ⟨y, hy, e.symm⟩) h.1
   · rw [hy] at e
     exact absurd (List.mem_map.2 ⟨x, hx, e⟩) h.1
   · exact inj_of_nodup h.2 x hx y hy e
theorem Dec.inj {f : Nat → Nat} {L : List (List Nat)} (h : Dec f L) : ∀ x ∈ L.flatten, ∀ y ∈ L.flatten, f x = f y → x = y := inj_of_nodup ((h.map_perm.nodup_iff).2 h.nodup)
theorem Dec.closed {f : Nat → Nat} {L : List (List Nat)} (h : Dec f L) {x : Nat} (hx : x ∈ L.flatten) : f x ∈ L.flatten := by
 obtain ⟨l, hl, hxl⟩ := List.mem_flatten.1 hx
 exact List.mem_flatten.2 ⟨l, hl, (h.ring l hl).closed hxl⟩
theorem Dec.back {f : Nat → Nat} {L : List (List Nat)} (h : Dec f L) {x : Nat} (hx : x ∈ L.flatten) : ∃ y ∈ L.flatten, f y = x := by
 have := h.map_perm.mem_iff.2 hx
 exact List.mem_map.1 this
theorem lead_last {f : Nat → Nat} {l : List Nat} {b : Nat} (h : Lead f l b) (hl : l ≠ []) : ∃ q ∈ l, f q = b := by
 have : b ∈ l.map f := by unfold Lead at h; rw [h]; simp
 exact List.mem_map.1 this
end Go.Proofs.Ytmikcfddipldnaa.Ring
namespace Go.Proofs.Ytmikcfddipldnaa.Face
open Go.RowKit Go.Proofs.YtmikcfddipldnaaW.PrintWords Go.Proofs.YtmikcfddipldnaaW.PrintLast Go.Proofs.YtmikcfddipldnaaW.PrintMore Go.Proofs.Ytmikcfddipldnaa.Mem Go.Proofs.Ytmikcfddipldnaa.Ring
set_option linter.unusedVariables false
set_option linter.unusedSimpArgs false
def zN (l : List Nat) : List Int := l.map fun (x : Nat) => (x : Int)
theorem zN_snoc (l : List Nat) (x : Nat) : zN l ++ [(x : Int)] = zN (l ++ [x]) := by unfold zN; simp
structure Steps (f : Nat → Nat) (st : List Int) : Prop where
 at_ : ∀ i, i < st.length → gi st i = (f i : Int)
 inn : ∀ i, i < st.length → f i < st.length
 inj : ∀ i j, i < st.length → j < st.length → f i = f j → i = j
section
variable {f : Nat → Nat} {st : List Int}
theorem Steps.close (h : Steps f st) {D fc : List Nat} {k hd : Nat} (hD : ∀ x ∈ D, x < st.length) (hb : ∀ x ∈ D, ∃ y ∈ D, f y = x) (hhd : hd ∉ D) (hn : fc.Nodup) (hfc : ∀ x ∈ fc, x < st.length ∧ x ∉ D) (hl : (fc = [] ∧ k = hd) ∨ (fc ≠ [] ∧ fc.headD 0 = hd ∧ Lead f fc k)) (hk : k ∈ D ∨ k ∈ fc) :
   fc ≠ [] ∧ fc.headD 0 = hd ∧ Ring f fc := by
 rcases hl with ⟨rfl, rfl⟩ | ⟨h1, h2, h3⟩
 · rcases hk with q | q
   · exact absurd q hhd
   · cases q
 · refine ⟨h1, h2, h1, ?_⟩
   obtain ⟨q, hq, e⟩ := lead_last h3 h1
   rcases hk with hk | hk
   · obtain ⟨y, hy, e2⟩ := hb k hk
     have := h.inj q y (hfc q hq).1 (hD y hy) (e.trans e2.symm)
     exact absurd (this ▸ hy) (hfc q hq).2
   · obtain ⟨u, v, rfl⟩ := List.append_of_mem hk
     cases u with
     | nil => exact h3
     | cons a u =>
       exfalso
       obtain ⟨l1, l2⟩ := lead_append.1 h3
       obtain ⟨p, hp, e3⟩ := lead_last l1 (by simp)
       obtain ⟨q2, hq2, e4⟩ := lead_last l2 (by simp)
       have := h.inj p q2 (hfc p (List.mem_append_left _ hp)).1 (hfc q2 (List.mem_append_right _ hq2)).1 (e3.trans e4.symm)
       rw [List.nodup_append] at hn
       exact hn.2.2 p hp q2 hq2 this
theorem goFace_spec (h : Steps f st) {D : List Nat} {hd : Nat} (hD : ∀ x ∈ D, x < st.length) (hb : ∀ x ∈ D, ∃ y ∈ D, f y = x) (hhd : hd ∉ D) :
   ∀ (n : Nat) (T : List Bool) (fc : List Nat) (k : Nat), T.length = st.length → left T ≤ n → k < st.length → fc.Nodup → (∀ x ∈ fc, x < st.length ∧ x ∉ D) → ((fc = [] ∧ k = hd) ∨ (fc ≠ [] ∧ fc.headD 0 = hd ∧ Lead f fc k)) → (∀ i, i < st.length → (gb T i = true ↔ i ∈ D ∨ i ∈ fc)) →
     ∃ T' fc', goFace st n T (zN fc) (k : Int) = (T', zN fc') ∧ Ring f fc' ∧ fc'.headD 0 = hd ∧ fc'.Nodup ∧ (∀ x ∈ fc', x < st.length ∧ x ∉ D) ∧ T'.length = st.length ∧ ∀ i, i < st.length → (gb T' i = true ↔ i ∈ D ∨ i ∈ fc')
 | 0, T, fc, k, hT, hl, hk, hn, hfc, hc, hg => by
   have h1 := left_zero (S := T) (by omega) (i := k) (by omega)
   obtain ⟨c1, c2, c3⟩ := h.close hD hb hhd hn hfc hc ((hg k hk).1 h1)
   exact ⟨T, fc, rfl, c3, c2, hn, hfc, hT, hg⟩
 | n + 1, T, fc, k, hT, hl, hk, hn, hfc, hc, hg => by
   cases hgk : gb T k with
   | true =>
     obtain ⟨c1, c2, c3⟩ := h.close hD hb hhd hn hfc hc ((hg k hk).1 hgk)
     refine ⟨T, fc, ?_, c3, c2, hn, hfc, hT, hg⟩
     unfold goFace
     rw [if_pos (by rw [Int.toNat_natCast]; exact hgk)]
   | false =>
     have hno : ¬ (k ∈ D ∨ k ∈ fc) := fun e => by rw [(hg k hk).2 e] at hgk; cases hgk
     have hls := left_set T k (by omega) hgk
     obtain ⟨T', fc', e1, e2⟩ := goFace_spec h hD hb hhd n (T.set k true) (fc ++ [k]) (f k) (by rw [List.length_set]; exact hT) (by omega) (h.inn k hk)
       (by
         rw [List.nodup_append]
         refine ⟨hn, by simp, fun a ha b hb e => ?_⟩
         rw [List.mem_singleton] at hb
         exact hno (.inr (by rw [← hb, ← e]; exact ha)))
       (fun x hx => by
         rcases List.mem_append.1 hx with hx | hx
         · exact hfc x hx
         · rw [List.mem_singleton] at hx
           rw [hx]
           exact ⟨hk, fun e => hno (.inl e)⟩)
       (.inr ⟨by simp, by
         rcases hc with ⟨rfl, rfl⟩ | ⟨c1, c2, c3⟩
         · rfl
         · cases fc with
           | nil => exact absurd rfl c1
           | cons a t => exact c2, by
         rcases hc with ⟨rfl, rfl⟩ | ⟨c1, c2, c3⟩
         · show Lead f [k] (f k)
           unfold Lead; simp
         · cases fc with
           | nil => exact absurd rfl c1
           | cons a t => exact lead_append.2 ⟨c3, by unfold Lead; simp⟩⟩)
       (fun i hi => by
         rw [gb_set, List.mem_append, List.mem_singleton]
         by_cases e : k = i
         · rw [if_pos ⟨e, by omega⟩]
           simp [e]
         · rw [if_neg (fun q => e q.1), hg i hi]
           simp [Ne.symm e])
     refine ⟨T', fc', ?_, e2⟩
     unfold goFace
     rw [if_neg (by rw [Int.toNat_natCast, hgk]; simp), Int.toNat_natCast, zN_snoc, h.at_ k hk]
     exact e1
theorem gb_none (n j : Nat) : gb (List.replicate n false) j = false := by
 unfold gb
 by_cases h : j < n <;> simp [List.getD_eq_getElem?_getD, List.getElem?_replicate, h]
structure Faced (f : Nat → Nat) (M h : Nat) (S : List Bool) (out : List (List Nat)) : Prop where
 len : S.length = M
 dec : Dec f out
 seen : ∀ i, i < M → (gb S i = true ↔ i ∈ out.flatten)
 inn : ∀ x ∈ out.flatten, x < M
 all : ∀ i, i < h → i ∈ out.flatten
 rise : out.Pairwise fun a b => a.headD 0 < b.headD 0
 head : ∀ l ∈ out, l.headD 0 < h ∧ ∀ x ∈ l, l.headD 0 ≤ x
theorem facesTo_spec (h : Steps f st) : ∀ m, m ≤ st.length → ∃ out, (facesTo st st.length m).2 = out.map zN ∧ Faced f st.length m (facesTo st st.length m).1 out
 | 0, _ => ⟨[], rfl, by simp [facesTo], ⟨by simp, by simp⟩, fun i hi => by simp [facesTo, gb_none], by simp, by omega, by simp, by simp⟩
 | m + 1, hm => by
   obtain ⟨out, e, F⟩ := facesTo_spec h m (by omega)
   unfold facesTo
   by_cases c : gb (facesTo st st.length m).1 m = true
   · rw [if_pos c]
     refine ⟨out, e, F.len, F.dec, F.seen, F.inn, fun i hi => ?_, F.rise, fun l hl => ⟨by have := (F.head l hl).1; omega, (F.head l hl).2⟩⟩
     rcases Nat.lt_succ_iff_lt_or_eq.1 hi with q | rfl
     · exact F.all i q
     · exact (F.seen i (by omega)).1 c
   · rw [if_neg c]
     have hmD : m ∉ out.flatten := fun q => c ((F.seen m (by omega)).2 q)
     obtain ⟨T', fc, e1, e2, e3, e4, e5, e6, e7⟩ := goFace_spec h (D := out.flatten) (hd := m) F.inn (fun x hx => F.dec.back hx) hmD st.length (facesTo st st.length m).1 [] m F.len (by have := left_le (facesTo st st.length m).1; have := F.len; omega) (by omega) (by simp) (by simp) (.inl ⟨rfl, rfl⟩) (fun i hi => by rw [F.seen i hi]; simp)
     have e1' : goFace st st.length (facesTo st st.length m).1 [] (m : Int) = (T', zN fc) := e1
     rw [e1']
     have hfl : (out ++ [fc]).flatten = out.flatten ++ fc := by simp
     refine ⟨out ++ [fc], by rw [e]; simp, e6, ⟨fun l hl => ?_, ?_⟩, fun i hi => ?_, fun x hx => ?_, fun i hi => ?_, ?_, fun l hl => ?_⟩
     · rcases List.mem_append.1 hl with hl | hl
       · exact F.dec.ring l hl
       · rw [List.mem_singleton] at hl
         rw [hl]; exact e2
     · rw [hfl, List.nodup_append]
       exact ⟨F.dec.nodup, e4, fun a ha b hb q => (e5 b hb).2 (by rw [← q]; exact ha)⟩
     · rw [hfl, List.mem_append]
       exact e7 i hi
     · rw [hfl, List.mem_append] at hx
       rcases hx with hx | hx
       · exact F.inn x hx
       · exact (e5 x hx).1
     · rw [hfl, List.mem_append]
       rcases Nat.lt_succ_iff_lt_or_eq.1 hi with q | rfl
       · exact .inl (F.all i q)
       · right
         rw [← e3]
         cases fc with
         | nil => exact absurd rfl e2.1
         | cons a t => simp
     · rw [List.pairwise_append]
       refine ⟨F.rise, by simp, fun a ha b hb => ?_⟩
       rw [List.mem_singleton] at hb
       rw [hb, e3]
       exact (F.head a ha).1
     · rcases List.mem_append.1 hl with hl | hl
       · exact ⟨by have := (F.head l hl).1; omega, (F.head l hl).2⟩
       · rw [List.mem_singleton] at hl
         rw [hl, e3]
         refine ⟨by omega, fun x hx => ?_⟩
         have := (e5 x hx).2
         rcases Nat.lt_or_ge x m with q | q
         · exact absurd (F.all x q) this
         · exact q
structure Faces (f : Nat → Nat) (M : Nat) (F : List (List Nat)) : Prop where
 dec : Dec f F
 perm : F.flatten.Perm (List.range M)
 rise : F.Pairwise fun a b => a.headD 0 < b.headD 0
 head : ∀ l ∈ F, ∀ x ∈ l, l.headD 0 ≤ x
theorem facesL_spec (h : Steps f st) : ∃ F, facesL st = F.map zN ∧ Faces f st.length F := by
 obtain ⟨out, e, F⟩ := facesTo_spec h st.length (Nat.le_refl _)
 refine ⟨out, e, F.dec, ?_, F.rise, fun l hl => (F.head l hl).2⟩
 exact perm_of_same F.dec.nodup List.nodup_range (fun x => ⟨fun hx => by rw [List.mem_range]; exact F.inn x hx, fun hx => F.all x (by rw [List.mem_range] at hx; exact hx)⟩)
theorem Faces.unique {M : Nat} {F G : List (List Nat)} (hF : Faces f M F) (hG : Faces f M G) {α : Type} (φ : List Nat → α) (hφ : ∀ l m, l.Perm m → φ l = φ m) : (F.map φ).Perm (G.map φ) :=
 Dec.unique φ hφ F G hF.dec hG.dec (hF.perm.trans hG.perm.symm)
end
end Go.Proofs.Ytmikcfddipldnaa.Face
namespace Go.Proofs.Ytmikcfddipldnaa.Rot
open Go.RowKit Go.Proofs.YtmikcfddipldnaaW.PrintWords Go.Proofs.YtmikcfddipldnaaW.PrintLast Go.Proofs.YtmikcfddipldnaaW.PrintMore Go.Proofs.Ytmikcfddipldnaa.GAll Go.Proofs.Ytmikcfddipldnaa.Mem Go.Proofs.Ytmikcfddipldnaa.Ring Go.Proofs.Ytmikcfddipldnaa.Face
set_option linter.unusedVariables false
set_option linter.unusedSimpArgs false
theorem ring_of_mod {f : Nat → Nat} {l : List Nat} (hl : l ≠ []) (h : ∀ j, j < l.length → f (l.getD j 0) = l.getD ((j + 1) % l.length) 0) : Ring f l := by
 cases l with
 | nil => exact absurd rfl hl
 | cons a t =>
   rw [ring_cons]
   unfold Lead
   apply List.ext_getElem
   · simp
   · intro i h1 h2
     have hi : i < (a :: t).length := by simpa using h1
     have hh := h i hi
     rw [List.getD_eq_getElem?_getD, List.getD_eq_getElem?_getD, List.getElem?_eq_getElem hi, Option.getD_some] at hh
     rw [List.getElem_map, hh]
     show _ = (t ++ [a])[i]'(by simpa using hi)
     by_cases c : i + 1 < (a :: t).length
     · rw [Nat.mod_eq_of_lt c, List.getElem?_eq_getElem c, List.getElem_append_left (by simp at c; omega)]
       rfl
     · have e : (i + 1) % (a :: t).length = 0 := by
         have : i + 1 = (a :: t).length := by omega
         rw [this, Nat.mod_self]
       rw [e, List.getElem_append_right (by simp at c hi ⊢; omega)]
       simp
def fN (l : List Int) : List Nat := l.map Int.toNat
theorem fN_getD (l : List Int) (j : Nat) : (fN l).getD j 0 = (gi l j).toNat := by
 unfold fN gi
 rw [List.getD_eq_getElem?_getD, List.getD_eq_getElem?_getD, List.getElem?_map]
 cases l[j]? <;> rfl
def rowsN (r : List (List Int)) : List (List Nat) := r.map fN
def nxf (l : List Ed) (r : List (List Int)) (h : Nat) : Nat := (gi (nxOf l r) h).toNat
theorem rowsN_get {r : List (List Int)} {i : Nat} (h : i < r.length) {h2 : i < (rowsN r).length} : (rowsN r)[i] = fN (gl r i) := by
 have e : gl r i = r[i] := by unfold gl; rw [List.getD_eq_getElem?_getD, List.getElem?_eq_getElem h]; rfl
 rw [e]
 exact List.getElem_map ..
def full (L : List (List Nat)) : List (List Nat) := L.filter fun l => !l.isEmpty
theorem full_flatten (L : List (List Nat)) : (full L).flatten = L.flatten := by
 induction L with
 | nil => rfl
 | cons a L ih =>
   unfold full at ih ⊢
   cases a with
   | nil => simpa using ih
   | cons x t => simp [ih]
section
variable {n : Nat} {l : List Ed} {r : List (List Int)}
theorem gl_ge {r : List (List Int)} {row : List Int} (h : row ∈ r) : ∃ v, v < r.length ∧ gl r v = row := by
 obtain ⟨v, hv, rfl⟩ := List.getElem_of_mem h
 exact ⟨v, hv, by unfold gl; rw [List.getD_eq_getElem?_getD, List.getElem?_eq_getElem hv]; rfl⟩
theorem gi_get0 {l : List Int} {i : Nat} (h : i < l.length) : gi l i = l[i] := by unfold gi; rw [List.getD_eq_getElem?_getD, List.getElem?_eq_getElem h]; rfl
theorem IsMap.row_at (hm : IsMap n l r) {v : Nat} (hv : v < n) {h : Nat} : h ∈ fN (gl r v) ↔ h < 2 * l.length ∧ gi (frs l) h = (v : Int) := by
 unfold fN
 rw [List.mem_map]
 have hfl := frs_length l
 constructor
 · rintro ⟨x, hx, rfl⟩
   obtain ⟨a, b, c⟩ := leaves_iff.1 ((hm.rot.mem v hv x).1 hx)
   exact ⟨by omega, c⟩
 · rintro ⟨a, b⟩
   exact ⟨(h : Int), (hm.rot.mem v hv _).2 (leaves_iff.2 ⟨by omega, by omega, by rw [Int.toNat_natCast]; exact b⟩), by simp⟩
theorem IsMap.row_nodup (hm : IsMap n l r) {v : Nat} (hv : v < n) : (fN (gl r v)).Nodup := by
 have h1 := hm.rot.nodup v hv
 unfold fN
 rw [List.Nodup, List.pairwise_map]
 refine List.Pairwise.imp_of_mem (fun {a b} ha hb hne e => hne ?_) h1
 have := (leaves_iff.1 ((hm.rot.mem v hv a).1 ha)).1
 have := (leaves_iff.1 ((hm.rot.mem v hv b).1 hb)).1
 omega
theorem IsMap.row_ring (hm : IsMap n l r) {v : Nat} (hv : v < n) (h0 : gl r v ≠ []) : Ring (nxf l r) (fN (gl r v)) := by
 have hx := (nxOf_next hm.rot).2
 refine ring_of_mod (by unfold fN; simpa using h0) (fun j hj => ?_)
 have hl : (fN (gl r v)).length = (gl r v).length := by unfold fN; simp
 have := hx v (by rw [hm.rot.len]; exact hv) j (by omega)
 rw [hl, fN_getD, fN_getD]
 unfold nxf
 rw [this]
theorem IsMap.rows_flat (hm : IsMap n l r) : (rowsN r).flatten.Nodup ∧ ∀ h, h ∈ (rowsN r).flatten ↔ h < 2 * l.length := by
 have hlen := hm.rot.len
 constructor
 · rw [List.Nodup, List.pairwise_flatten]
   constructor
   · intro L hL
     obtain ⟨row, hrow, rfl⟩ := List.mem_map.1 hL
     obtain ⟨v, hv, rfl⟩ := gl_ge hrow
     exact hm.row_nodup (by omega)
   · rw [List.pairwise_iff_getElem]
     intro i j hi hj hij x hx y hy e
     subst e
     have hi2 : i < r.length := by simpa [rowsN] using hi
     have hj2 : j < r.length := by simpa [rowsN] using hj
     have e1 : (rowsN r)[i] = fN (gl r i) := rowsN_get hi2
     have e2 : (rowsN r)[j] = fN (gl r j) := rowsN_get hj2
     rw [e1] at hx
     rw [e2] at hy
     have h1 := (hm.row_at (by omega)).1 hx
     have h2 := (hm.row_at (by omega)).1 hy
     have : ((i : Int)) = (j : Int) := h1.2.symm.trans h2.2
     omega
 · intro h
   rw [List.mem_flatten]
   constructor
   · rintro ⟨L, hL, hh⟩
     obtain ⟨row, hrow, rfl⟩ := List.mem_map.1 hL
     obtain ⟨v, hv, rfl⟩ := gl_ge hrow
     exact ((hm.row_at (by omega)).1 hh).1
   · intro hh
     have hf := frs_range hm.good hh
     obtain ⟨v, hv⟩ := Int.eq_ofNat_of_zero_le hf.1
     have hvn : v < n := by omega
     refine ⟨fN (gl r v), List.mem_map.2 ⟨gl r v, ?_, rfl⟩, (hm.row_at hvn).2 ⟨hh, hv⟩⟩
     unfold gl
     rw [List.getD_eq_getElem?_getD, List.getElem?_eq_getElem (by omega)]
     exact List.getElem_mem _
theorem IsMap.dec (hm : IsMap n l r) : Dec (nxf l r) (full (rowsN r)) ∧ (full (rowsN r)).flatten.Perm (List.range (2 * l.length)) := by
 obtain ⟨h1, h2⟩ := hm.rows_flat
 refine ⟨⟨fun L hL => ?_, by rw [full_flatten]; exact h1⟩, ?_⟩
 · unfold full at hL
   rw [List.mem_filter] at hL
   obtain ⟨row, hrow, rfl⟩ := List.mem_map.1 hL.1
   obtain ⟨v, hv, rfl⟩ := gl_ge hrow
   refine hm.row_ring (by have := hm.rot.len; omega) (fun e => ?_)
   rw [e] at hL
   simp [fN] at hL
 · rw [full_flatten]
   exact perm_of_same h1 List.nodup_range (fun x => by rw [h2, List.mem_range])
theorem IsMap.nxf_eq (hm : IsMap n l r) {h : Nat} (hh : h < 2 * l.length) : gi (nxOf l r) h = (nxf l r h : Int) := by
 have := next_in hm.rot (nxOf_next hm.rot) (frs_in hm.good) (x := h) (by rw [frs_length]; exact hh)
 unfold nxf
 omega
theorem twn_lt {h m : Nat} (hh : h < 2 * m) : twn h < 2 * m := by unfold twn; split <;> omega
theorem tw_twn {h : Nat} (hh : h ≤ 9000000) : Go.bits .xor .i64 (h : Int) 1 = (twn h : Int) := Seen.tw_nat hh
def stf (l : List Ed) (r : List (List Int)) : Nat → Nat := upTo (nxf l r) l.length
theorem stf_eq {h : Nat} (hh : h < 2 * l.length) : stf l r h = nxf l r (twn h) := if_pos hh
def stOf (l : List Ed) (r : List (List Int)) : List Int := (List.range (2 * l.length)).map fun h => gi (nxOf l r) (twn h)
theorem stOf_length : (stOf l r).length = 2 * l.length := by unfold stOf; simp
theorem gi_stOf {h : Nat} (hh : h < 2 * l.length) : gi (stOf l r) h = gi (nxOf l r) (twn h) := by
 unfold stOf gi
 simp [List.getD_eq_getElem?_getD, hh]
theorem IsMap.even (hm : IsMap n l r) : ∀ e, 2 * e ∈ (full (rowsN r)).flatten ↔ 2 * e + 1 ∈ (full (rowsN r)).flatten := by
 intro e
 rw [full_flatten, hm.rows_flat.2, hm.rows_flat.2]
 omega
theorem IsMap.steps (hm : IsMap n l r) : Face.Steps (stf l r) (stOf l r) := by
 obtain ⟨h1, h2⟩ := hm.dec
 obtain ⟨L', d1, d2, _⟩ := parity h1 hm.even l.length
 have hp := d2.trans h2
 have mem : ∀ i, i < 2 * l.length ↔ i ∈ L'.flatten := fun i => by rw [hp.mem_iff, List.mem_range]
 refine ⟨fun i hi => ?_, fun i hi => ?_, fun i j hi hj e => ?_⟩
 · rw [stOf_length] at hi
   rw [gi_stOf hi, hm.nxf_eq (twn_lt hi), stf_eq hi]
 · rw [stOf_length] at hi ⊢
   exact (mem _).2 (d1.closed ((mem i).1 hi))
 · rw [stOf_length] at hi hj
   exact d1.inj i ((mem i).1 hi) j ((mem j).1 hj) e
theorem IsMap.faces (hm : IsMap n l r) : ∃ F, facesL (stOf l r) = F.map zN ∧ Faces (stf l r) (2 * l.length) F := by
 have := facesL_spec hm.steps
 rw [stOf_length] at this
 exact this
end
end Go.Proofs.Ytmikcfddipldnaa.Rot
namespace Go.Proofs.Ytmikcfddipldnaa.Rot
open Go.RowKit Go.Proofs.YtmikcfddipldnaaW.PrintWords Go.Proofs.YtmikcfddipldnaaW.PrintLast Go.Proofs.YtmikcfddipldnaaW.PrintMore Go.Proofs.Ytmikcfddipldnaa.GAll Go.Proofs.Ytmikcfddipldnaa.Mem Go.Proofs.Ytmikcfddipldnaa.Ring Go.Proofs.Ytmikcfddipldnaa.Face
set_option linter.unusedVariables false
set_option linter.unusedSimpArgs false
theorem wad {i : Nat} (h : i ≤ 900000000) : wrap64 ((i : Int) + 1) = ((i + 1 : Nat) : Int) := by rw [IntWalk.wrap64_in _ (by omega)]; omega
section
variable {n : Nat} {l : List Ed} {r : List (List Int)}
theorem goFace_go {st : List Int} {m : Nat} {T : List Bool} {fc : List Int} {k : Int} (h : gb T k.toNat = false) : goFace st (m + 1) T fc k = goFace st m (T.set k.toNat true) (fc ++ [k]) (gi st k.toNat) := by
 conv => lhs; unfold goFace
 rw [if_neg (by rw [h]; simp)]
theorem goFace_stop {st : List Int} {m : Nat} {T : List Bool} {fc : List Int} {k : Int} (h : gb T k.toNat = true) : goFace st m T fc k = (T, fc) := by
 cases m with
 | zero => rfl
 | succ m =>
   conv => lhs; unfold goFace
   rw [if_pos h]
theorem gi_ge {st : List Int} {m : Nat} : ∀ (T : List Bool) (fc : List Int) (k : Int), fc.length ≤ (goFace st m T fc k).2.length := by
 induction m with
 | zero => intro T fc k; exact Nat.le_refl _
 | succ m ih =>
   intro T fc k
   unfold goFace
   split
   · exact Nat.le_refl _
   · have := ih (T.set k.toNat true) (fc ++ [k]) (gi st k.toNat)
     simp at this; omega
theorem walk_ev (hm : IsMap n l r) {out : List (List Int)} {h : Nat} {res : List (List Int) × Int} (ho : out.length ≤ 8388608) (hh : h < 2 * l.length) :
   ∀ (m : Nat) (T : List Bool) (fc : List Int) (k : Nat), T.length = 2 * l.length → left T ≤ m → k < 2 * l.length → fc.length + m ≤ 2 * l.length →
     Ev (fun q => faces_Of.l0 q (nxOf l r) (goFace (stOf l r) m T fc (k : Int)).1 (if 0 < (goFace (stOf l r) m T fc (k : Int)).2.length then out ++ [(goFace (stOf l r) m T fc (k : Int)).2] else out) ((nxOf l r).length : Int) ((h + 1 : Nat) : Int)) res →
     Ev (fun q => faces_Of.l1 q (nxOf l r) T out fc (k : Int) ((nxOf l r).length : Int) (h : Int)) res := by
 have hll := hm.good.2.2.1
 have hlen := hm.len
 have key : ∀ (m : Nat) (T : List Bool) (fc : List Int) (k : Nat), T.length = 2 * l.length → k < 2 * l.length → gb T k = true → Ev (fun q => faces_Of.l0 q (nxOf l r) (goFace (stOf l r) m T fc (k : Int)).1 (if 0 < (goFace (stOf l r) m T fc (k : Int)).2.length then out ++ [(goFace (stOf l r) m T fc (k : Int)).2] else out) ((nxOf l r).length : Int) ((h + 1 : Nat) : Int)) res →
     Ev (fun q => faces_Of.l1 q (nxOf l r) T out fc (k : Int) ((nxOf l r).length : Int) (h : Int)) res := by
   intro m T fc k hT hk hg H
   rw [goFace_stop (by rw [Int.toNat_natCast]; exact hg)] at H
   refine Ev.step (fun q => ?_) H
   simp only [faces_Of.l1]
   change (if 0 ≤ (k : Int) then (if (k : Int) < (T.length : Int) then (if gb T ((k : Int).toNat) = true then _ else _) else _) else _) = _
   rw [if_pos (by omega), if_pos (by omega), Int.toNat_natCast, if_pos hg, wad (by omega)]
   by_cases c : 0 < fc.length
   · rw [if_pos (by omega), if_pos (by omega), if_pos c]
   · rw [if_neg (by omega), if_neg c]
 intro m
 induction m with
 | zero =>
   intro T fc k hT hl hk hf H
   exact key 0 T fc k hT hk (left_zero (by omega) (by omega)) H
 | succ m ih =>
   intro T fc k hT hl hk hf H
   cases hg : gb T k with
   | true => exact key (m + 1) T fc k hT hk hg H
   | false =>
     rw [goFace_go (by rw [Int.toNat_natCast]; exact hg), Int.toNat_natCast, gi_stOf hk, hm.nxf_eq (twn_lt hk)] at H
     have hls := left_set T k (by omega) hg
     have hin := hm.steps.inn k (by rw [stOf_length]; exact hk)
     rw [stOf_length, stf_eq hk] at hin
     refine Ev.step (fun q => ?_) (ih (T.set k true) (fc ++ [(k : Int)]) (nxf l r (twn k)) (by rw [List.length_set]; exact hT) (by omega) hin (by simp; omega) H)
     have ht := tw_twn (h := k) (by omega)
     have htl := twn_lt hk
     simp only [faces_Of.l1]
     change (if 0 ≤ (k : Int) then (if (k : Int) < (T.length : Int) then (if gb T ((k : Int).toNat) = true then _ else _) else _) else _) = _
     rw [if_pos (by omega), if_pos (by omega), Int.toNat_natCast, if_neg (by rw [hg]; simp), if_pos (by omega), ht, if_pos (by omega), if_pos (by omega), gi_rd, hm.nxf_eq htl]
theorem of_loop (hm : IsMap n l r) (d : Nat) : ∀ h : Nat, h + d = 2 * l.length → Ev (fun q => faces_Of.l0 q (nxOf l r) (facesTo (stOf l r) (2 * l.length) h).1 (facesTo (stOf l r) (2 * l.length) h).2 ((nxOf l r).length : Int) (h : Int)) (facesL (stOf l r), 0) := by
 have hll := hm.good.2.2.1
 have hlen := hm.len
 induction d with
 | zero =>
   intro h hh
   obtain rfl : h = 2 * l.length := by omega
   refine Ev.step (f := fun _ => some (facesL (stOf l r), 0)) (fun q => ?_) (Ev.now _)
   simp only [faces_Of.l0]
   rw [if_neg (by omega)]
   unfold facesL
   rw [stOf_length]
 | succ d ih =>
   intro h hh
   have H := ih (h + 1) (by omega)
   obtain ⟨f1, f2⟩ := facesTo_len (stOf l r) (2 * l.length) h
   refine Ev.step (fun q => ?_) (walk_ev hm (out := (facesTo (stOf l r) (2 * l.length) h).2) (h := h) (res := (facesL (stOf l r), 0)) (by omega) (by omega) (2 * l.length) (facesTo (stOf l r) (2 * l.length) h).1 [] h f1 (by have := left_le (facesTo (stOf l r) (2 * l.length) h).1; omega) (by omega) (by simp) ?_)
   · simp only [faces_Of.l0]
     rw [if_pos (by omega)]
   · unfold facesTo at H
     cases hg : gb (facesTo (stOf l r) (2 * l.length) h).1 h with
     | true =>
       rw [if_pos hg] at H
       rw [goFace_stop (by rw [Int.toNat_natCast]; exact hg)]
       simpa using H
     | false =>
       rw [if_neg (by rw [hg]; simp)] at H
       obtain ⟨m, hmm⟩ : ∃ m, 2 * l.length = m + 1 := ⟨2 * l.length - 1, by omega⟩
       have hp : 0 < (goFace (stOf l r) (2 * l.length) (facesTo (stOf l r) (2 * l.length) h).1 [] (h : Int)).2.length := by
         generalize (facesTo (stOf l r) (2 * l.length) h).1 = T at hg
         rw [hmm, goFace_go (by rw [Int.toNat_natCast]; exact hg)]
         have := gi_ge (st := stOf l r) (m := m) (T.set ((h : Int).toNat) true) ([] ++ [(h : Int)]) (gi (stOf l r) ((h : Int).toNat))
         simp at this ⊢; omega
       rw [if_pos hp]
       exact H
theorem next_bad {v e : Int} {a : Int} (he : e ≠ 0) (h : Ev (fun k => rot_Check.f k a l r) (v, e)) : Ev (fun k => rot_Next.f k a l r) ([], e) := by
 unfold rot_Next.f
 exact Ev.bind h (Ev.congr (fun k => if_neg he) (Ev.now _))
theorem of_bad {v e : Int} {a : Int} (he : e ≠ 0) (h : Ev (fun k => rot_Check.f k a l r) (v, e)) : Ev (fun k => faces_Of.f k a l r) ([], e) := by
 unfold faces_Of.f
 exact Ev.bind (next_bad he h) (Ev.congr (fun k => if_neg he) (Ev.now _))
theorem of_ok (hm : IsMap n l r) (h : Ev (fun k => rot_Check.f k (n : Int) l r) (0, 0)) : Ev (fun k => faces_Of.f k (n : Int) l r) (facesL (stOf l r), 0) := by
 have hlen := hm.len
 have hll := hm.good.2.2.1
 have H := of_loop hm (2 * l.length) 0 (by omega)
 unfold faces_Of.f
 refine Ev.bind (next_ev hm h) (Ev.congr (fun k => ?_) H)
 simp only
 rw [if_pos trivial, if_pos (by omega), if_pos (by omega)]
 show faces_Of.l0 k _ (List.replicate ((nxOf l r).length : Int).toNat false) [] _ 0 = _
 rw [Int.toNat_natCast, hlen]
 rfl
theorem twin_nat {h : Nat} (hh : h ≤ 9000000) : tangramref03_Twin.f (h : Int) = some (twn h : Int) := by
 unfold tangramref03_Twin.f
 have e1 : Int.tmod (h : Int) 2 = ((h % 2 : Nat) : Int) := rfl
 rw [e1]
 unfold twn
 by_cases c : h % 2 = 0
 · rw [if_pos (by omega), if_pos c, IntWalk.wrap64_in _ (by omega)]; rfl
 · rw [if_neg (by omega), if_neg c, IntWalk.wrap64_in _ (by omega), show (h : Int) - 1 = ((h - 1 : Nat) : Int) by omega]
theorem step_loop (hm : IsMap n l r) (e : Int) (d : Nat) : ∀ h : Nat, h + d = 2 * l.length → Ev (fun q => tangramref12_Step.l0 q (nxOf l r) e ((stOf l r).take h) (h : Int)) (stOf l r, e) := by
 have hll := hm.good.2.2.1
 have hlen := hm.len
 have hsl := stOf_length (l := l) (r := r)
 induction d with
 | zero =>
   intro h hh
   refine Ev.step (f := fun _ => some (stOf l r, e)) (fun q => ?_) (Ev.now _)
   simp only [tangramref12_Step.l0]
   rw [if_neg (by omega), List.take_of_length_le (by omega)]
 | succ d ih =>
   intro h hh
   have hx : h < (stOf l r).length := by omega
   have htl := twn_lt (h := h) (m := l.length) (by omega)
   refine Ev.step (fun q => ?_) (ih (h + 1) (by omega))
   simp only [tangramref12_Step.l0]
   rw [if_pos (by omega), twin_nat (by omega), Option.bind_some, if_pos (by omega), if_pos (by omega), if_pos (by rw [List.length_take]; omega), wad (by omega), List.take_succ_eq_append_getElem hx, gi_rd, ← gi_stOf (by omega), gi_get0 hx]
theorem refstep_ok (hm : IsMap n l r) (h : Ev (fun k => tangramref11_Check.f k (n : Int) l r) (0, 0)) : Ev (fun k => tangramref12_Step.f k (n : Int) l r) (stOf l r, 0) := by
 unfold tangramref12_Step.f
 exact Ev.bind (refnext_ev hm h) (step_loop hm 0 (2 * l.length) 0 (by omega))
theorem refstep_bad {v e : Int} {a : Int} (he : e ≠ 0) (h : Ev (fun k => tangramref11_Check.f k a l r) (v, e)) : Ev (fun k => tangramref12_Step.f k a l r) ([], e) := by
 unfold tangramref12_Step.f tangramref11_Next.f
 refine Ev.bind (a := ([], e)) (Ev.bind h (Ev.congr (fun k => if_neg he) (Ev.now _))) ?_
 refine Ev.step (f := fun _ => some ([], e)) (fun q => ?_) (Ev.now _)
 simp only [tangramref12_Step.l0]
 rfl
theorem IsMap.fits (hm : IsMap n l r) : fitsB (stOf l r) = true := by
 have hll := hm.good.2.2.1
 refine fits_iff.2 ⟨by rw [stOf_length]; omega, fun i hi => ?_⟩
 have h1 := hm.steps.at_ i hi
 have h2 := hm.steps.inn i hi
 omega
theorem refof_ok (hm : IsMap n l r) (h : Ev (fun k => tangramref11_Check.f k (n : Int) l r) (0, 0)) : Ev (fun k => tangramref12_Of.f k (n : Int) l r) (facesL (stOf l r), 0) := by
 unfold tangramref12_Of.f
 exact Ev.bind (refstep_ok hm h) (Ev.congr (fun k => if_pos rfl) (Ev.congr (fun k => if_pos hm.fits) (Ev.now _)))
theorem refof_bad {v e : Int} {a : Int} (he : e ≠ 0) (h : Ev (fun k => tangramref11_Check.f k a l r) (v, e)) : Ev (fun k => tangramref12_Of.f k a l r) ([], e) := by
 unfold tangramref12_Of.f
 exact Ev.bind (refstep_bad he h) (Ev.congr (fun k => if_neg he) (Ev.now _))
theorem faces_mem (hm : IsMap n l r) {F : List (List Nat)} (hF : Faces (stf l r) (2 * l.length) F) {L : List Nat} (hL : L ∈ F) : ∀ x ∈ L, x < 2 * l.length := fun x hx => by
 have := hF.perm.mem_iff.1 (List.mem_flatten.2 ⟨L, hL, hx⟩)
 rwa [List.mem_range] at this
theorem len_le_flat : ∀ (F : List (List Nat)), (∀ L ∈ F, L ≠ []) → F.length ≤ F.flatten.length
 | [], _ => Nat.le_refl _
 | L :: F, h => by
   have ih := len_le_flat F (fun M hM => h M (List.mem_cons_of_mem _ hM))
   have := List.length_pos_iff.2 (h L (List.mem_cons_self ..))
   rw [List.flatten_cons, List.length_append, List.length_cons]; omega
theorem one_le_flat {F : List (List Nat)} {L : List Nat} (h : L ∈ F) : L.length ≤ F.flatten.length := by
 obtain ⟨s, t, rfl⟩ := List.append_of_mem h
 simp; omega
theorem IsMap.small (hm : IsMap n l r) {F : List (List Nat)} (hF : Faces (stf l r) (2 * l.length) F) : F.length ≤ 2 * l.length ∧ ∀ L ∈ F, L.length ≤ 2 * l.length := by
 have h1 := hF.perm.length_eq
 rw [List.length_range] at h1
 exact ⟨by rw [← h1]; exact len_le_flat F (fun L hL => (hF.dec.ring L hL).1), fun L hL => by rw [← h1]; exact one_le_flat hL⟩
theorem IsMap.fitL (hm : IsMap n l r) : Face.fitL (facesL (stOf l r)) l.length = true := by
 obtain ⟨F, e, hF⟩ := hm.faces
 obtain ⟨s1, s2⟩ := hm.small hF
 have hll := hm.good.2.2.1
 rw [e]
 unfold Face.fitL
 simp only [Bool.and_eq_true, decide_eq_true_eq, List.all_eq_true, List.length_map]
 refine ⟨hll, by omega, fun row hrow => ?_⟩
 obtain ⟨L, hL, rfl⟩ := List.mem_map.1 hrow
 have := s2 L hL
 refine ⟨by unfold zN; rw [List.length_map]; omega, fun x hx => ?_⟩
 obtain ⟨y, hy, rfl⟩ := List.mem_map.1 hx
 have := faces_mem hm hF hL y hy
 omega
theorem left_ok (hm : IsMap n l r) (h : Ev (fun k => rot_Check.f k (n : Int) l r) (0, 0)) : Ev (fun k => faces_Left.f k (n : Int) l r) (leftL (facesL (stOf l r)) (2 * l.length), 0) := by
 unfold faces_Left.f
 exact Ev.bind (of_ok hm h) (Ev.congr (fun k => if_pos rfl) (Ev.congr (fun k => if_pos hm.fitL) (Ev.now _)))
theorem left_bad {v e : Int} {a : Int} (he : e ≠ 0) (h : Ev (fun k => rot_Check.f k a l r) (v, e)) : Ev (fun k => faces_Left.f k a l r) ([], e) := by
 unfold faces_Left.f
 exact Ev.bind (of_bad he h) (Ev.congr (fun k => if_neg he) (Ev.now _))
theorem refleft_ok (hm : IsMap n l r) (h : Ev (fun k => tangramref11_Check.f k (n : Int) l r) (0, 0)) : Ev (fun k => tangramref12_Left.f k (n : Int) l r) (leftL (facesL (stOf l r)) (2 * l.length), 0) := by
 unfold tangramref12_Left.f
 exact Ev.bind (refof_ok hm h) (Ev.congr (fun k => if_pos rfl) (Ev.congr (fun k => if_pos hm.fitL) (Ev.now _)))
theorem refleft_bad {v e : Int} {a : Int} (he : e ≠ 0) (h : Ev (fun k => tangramref11_Check.f k a l r) (v, e)) : Ev (fun k => tangramref12_Left.f k a l r) ([], e) := by
 unfold tangramref12_Left.f
 exact Ev.bind (refof_bad he h) (Ev.congr (fun k => if_neg he) (Ev.now _))
end
theorem lists_same (xs : List (List Int)) (hl : xs.length ≤ 900000000) (hi : ∀ x ∈ xs, x.length ≤ 900000000) : Ev (fun k => tangramref03_SameLists.f k xs xs) true := by
 have loop : ∀ (d i : Nat), i + d = xs.length → Ev (fun k => tangramref03_SameLists.l0 k xs xs (i : Int)) true := by
   intro d
   induction d with
   | zero =>
     intro i hi
     refine Ev.step (f := fun _ => some true) (fun k => ?_) (Ev.now _)
     simp only [tangramref03_SameLists.l0]
     rw [if_neg (by omega)]
   | succ d ih =>
     intro i hd
     refine Ev.step (f := fun k => (tangramref03_SameInts.f k (xs.getD i []) (xs.getD i [])).bind fun t => if t = true then tangramref03_SameLists.l0 k xs xs ((i + 1 : Nat) : Int) else some false) (fun k => ?_) (Ev.bind (ints_same (Nat.le_trans (hi _ ?_) (by decide))) ?_)
     · simp only [tangramref03_SameLists.l0]
       rw [if_pos (by omega), if_pos (by omega), if_pos (by omega), wad (by omega)]
       rfl
     · rw [List.getD_eq_getElem?_getD, List.getElem?_eq_getElem (by omega)]
       exact List.getElem_mem _
     · simp only [if_true]
       exact ih (i + 1) (by omega)
 refine Ev.congr (fun k => ?_) (loop xs.length 0 (by omega))
 simp only [tangramref03_SameLists.f]
 rw [if_pos trivial]
 rfl
theorem IsMap.lists {n : Nat} {l : List Ed} {r : List (List Int)} (hm : IsMap n l r) : (facesL (stOf l r)).length ≤ 8388608 ∧ ∀ x ∈ facesL (stOf l r), x.length ≤ 8388608 := by
 obtain ⟨F, e, hF⟩ := hm.faces
 obtain ⟨s1, s2⟩ := hm.small hF
 have hll := hm.good.2.2.1
 rw [e]
 refine ⟨by rw [List.length_map]; omega, fun x hx => ?_⟩
 obtain ⟨L, hL, rfl⟩ := List.mem_map.1 hx
 have := s2 L hL
 unfold zN
 rw [List.length_map]; omega
end Go.Proofs.Ytmikcfddipldnaa.Rot
namespace Go.Proofs.Ytmikcfddipldnaa.Sets
open Go.RowKit Go.Proofs.YtmikcfddipldnaaW.PrintWords Go.Proofs.YtmikcfddipldnaaW.PrintLast Go.Proofs.YtmikcfddipldnaaW.PrintMore
set_option linter.unusedVariables false
set_option linter.unusedSimpArgs false
def ints (l : List Nat) : List Int := l.map fun (x : Nat) => (x : Int)
theorem iv_encs (l : List Nat) : iv l = encs (Value.int .i64) (ints l) := by simp [iv, encs, ints, Function.comp_def]
theorem GRows.rows {w : World} {B bo base : Nat} {vs : List Value} {gs : List (List Nat)} {ok : Nat → Prop} (h : GRows w B bo vs gs) (hb : base ≤ bo) (hl : gs.length ≤ 9223372036854775807) (hok : ∀ k, base ≤ k → ok k) :
   Kd.R (Kd.slice 3 (Kd.int .i64)) 36 w base ok (.slice (some ⟨bo, 0, none⟩) gs.length gs.length) (gs.map ints) := by
 have hlt := h.lt
 have hsz : (Kd.slice 3 (Kd.int .i64)).sz = 1 := rfl
 refine ⟨fun k hk => hok k (by have : bo = k := by simpa [Value.ownBlock] using hk
                               omega), vs, ⟨by simp [h.len, hsz], .inr ⟨bo, gs.length, vs.toArray, by simp, hb, h.out, by simp, by unfold maxLen; simpa using hl, by simp [h.len, hsz], ?_⟩⟩, by simp [h.len, hsz], fun j p hj => ?_⟩
 · simp [List.take_of_length_le, h.len, hsz]
 · rw [List.getElem?_map] at hj
   obtain ⟨g, hg, rfl⟩ := Option.map_eq_some_iff.1 hj
   have hj2 : j < gs.length := (List.getElem?_eq_some_iff.1 hg).1
   have e1 : gl gs j = g := by unfold gl; rw [List.getD_eq_getElem?_getD, hg]; rfl
   have e2 : (vs.drop (j * 1)).take 1 = [va vs j] := by
     rw [Nat.mul_one, List.drop_eq_getElem_cons (by rw [h.len]; exact hj2), List.take_succ_cons, List.take_zero]
     simp [va, List.getD_eq_getElem?_getD, h.len, hj2]
   refine ⟨va vs j, e2, Kd.R_of_own ?_ (fun k hk => ?_)⟩
   · have := own_weaken (h.own j hj2) (show base ≤ B by omega)
     rw [iv_encs, e1] at this
     rw [show (ints g).length = g.length by simp [ints]]
     exact this
   · have := own_lt (h.own j hj2) hk
     refine ⟨hok k (by omega), fun e => ?_⟩
     have : k = bo := by simpa [Value.ownBlock] using e
     omega
def Sub (n : Nat) (es : List (Int × Int)) (m : List Nat) : Prop := ∃ E, Part n E m ∧ ∀ a b, E a b → Conn (EP n es) a b
theorem Sub.start (n : Nat) (es : List (Int × Int)) : Sub n es (List.range n) := ⟨_, Part.range n, fun _ _ h => h.elim⟩
theorem pe_mem {es : List (Int × Int)} {k : Nat} (h : k < es.length) : pe es k ∈ es := by
 unfold pe; rw [List.getD_eq_getElem?_getD, List.getElem?_eq_getElem h]; exact List.getElem_mem h
def Cov (n : Nat) (es : List (Int × Int)) (i : Nat) (m : List Nat) : Prop := ∃ E, Part n E m ∧ (∀ a b, E a b → Conn (EP n es) a b) ∧ ∀ j, i ≤ j → j < es.length → ∀ a b : Nat, a < n → b < n → pe es j = ((a : Int), (b : Int)) → Conn E a b
theorem mem_pe {es : List (Int × Int)} {x : Int × Int} (h : x ∈ es) : ∃ j, j < es.length ∧ pe es j = x := by
 obtain ⟨j, hj, rfl⟩ := List.mem_iff_getElem.1 h
 exact ⟨j, hj, by unfold pe; rw [List.getD_eq_getElem?_getD, List.getElem?_eq_getElem hj]; rfl⟩
theorem Cov.all {n : Nat} {es : List (Int × Int)} {m : List Nat} (h : Cov n es 0 m) : m = joinAll (List.range n) es := by
 obtain ⟨E, h1, h2, h3⟩ := h
 refine h1.unique (joinAll_part n es) h2 ?_
 rintro a b ⟨ha, hb, hm⟩
 obtain ⟨j, hj, hp⟩ := mem_pe hm
 exact h3 j (by omega) hj a b ha hb hp
def yesTo (m : List Nat) (es : List (Int × Int)) : Nat → Nat
 | 0 => 0
 | k + 1 => yesTo m es k + if (joinOf (joinAll m (es.take k)) (pe es k).1 (pe es k).2).2 = true then 1 else 0
theorem sets_yes (n : Nat) (es : List (Int × Int)) : ∀ k, k ≤ es.length → sets (joinAll (List.range n) (es.take k)) + yesTo (List.range n) es k = n := by
 intro k
 induction k with
 | zero => intro _; simp [joinAll, yesTo, sets_range]
 | succ k ih =>
   intro hk
   have h1 := ih (by omega)
   have h2 := sets_join (joinAll_part n (es.take k)) (pe es k).1 (pe es k).2
   rw [joinAll_take _ _ (by omega)]
   unfold yesTo
   omega
theorem numTo_sets {n : Nat} {E : Nat → Nat → Prop} {m : List Nat} (h : Part n E m) : ∀ k, k ≤ n → (numTo m k).2 = (List.range k).countP fun i => gt m i == i := by
 intro k
 induction k with
 | zero => intro _; rfl
 | succ k ih =>
   intro hk
   rw [List.range_succ, List.countP_append]
   have h1 := ih (by omega)
   have h2 := h.le k (by omega)
   unfold numTo
   by_cases c : gt m k < k
   · rw [if_pos c]
     simp [h1, show gt m k ≠ k by omega]
   · rw [if_neg c]
     simp [h1, show gt m k = k by omega]
theorem numTo_all {n : Nat} {E : Nat → Nat → Prop} {m : List Nat} (h : Part n E m) : (numTo m m.length).2 = sets m := by
 rw [h.len, numTo_sets h n (Nat.le_refl _)]
 unfold sets
 rw [h.len]
structure Two (w0 w : World) (p bP bS q bQ bT : Nat) (ms mt : List Nat) : Prop where
 s : At w p bP bS ms
 t : At w q bQ bT mt
 lo : w0.heap.size ≤ p ∧ w0.heap.size ≤ bP ∧ w0.heap.size ≤ bS ∧ w0.heap.size ≤ q ∧ w0.heap.size ≤ bQ ∧ w0.heap.size ≤ bT
 ap : p < q ∧ p < bQ ∧ p < bT ∧ bP < q ∧ bP < bQ ∧ bP < bT ∧ bS < q ∧ bS < bQ ∧ bS < bT
 old : Below w0.heap.size w0 w
def Own2 (p bP bS q bQ bT : Nat) (k : Nat) : Prop := Own p bP bS k ∨ Own q bQ bT k
theorem At.frame {w w' : World} {p bP bS : Nat} {m : List Nat} {S : Nat → Prop} (h : At w p bP bS m) (f : Frame S w w') (hs : ∀ k, Own p bP bS k → ¬ S k) : At w' p bP bS m := by
 obtain ⟨P, S', h⟩ := h
 exact ⟨P, S', f.blk h.obj (hs _ (.inl rfl)), f.blk h.par (hs _ (.inr (.inl rfl))), f.blk h.siz (hs _ (.inr (.inr rfl))), h.ne1, h.ne2, h.ne3, h.small, h.rep, h.sized⟩
theorem At.hi {w : World} {p bP bS : Nat} {m : List Nat} (h : At w p bP bS m) : p < w.heap.size ∧ bP < w.heap.size ∧ bS < w.heap.size := by
 obtain ⟨P, S', h⟩ := h
 exact ⟨blk_lt h.obj, blk_lt h.par, blk_lt h.siz⟩
section
variable {w0 w w' : World} {p bP bS q bQ bT : Nat} {ms mt : List Nat}
theorem Two.alloc (h : Two w0 w p bP bS q bQ bT ms mt) (o : Obj) : Two w0 (w.alloc o) p bP bS q bQ bT ms mt := by
 have f : Frame (fun _ => False) w (w.alloc o) := (Frame.refl _ w).alloc o
 exact ⟨h.s.frame f (fun _ _ e => e), h.t.frame f (fun _ _ e => e), h.lo, h.ap, h.old.alloc (by exact h.old.size) o⟩
theorem Two.put (h : Two w0 w p bP bS q bQ bT ms mt) {b i : Nat} (u : Value) (hb : w0.heap.size ≤ b) (hn : ¬ Own2 p bP bS q bQ bT b) : Two w0 (w.setCell ⟨b, i, none⟩ u) p bP bS q bQ bT ms mt := by
 have f : Frame (· = b) w (w.setCell ⟨b, i, none⟩ u) := Frame.setCell (S := (· = b)) (p := ⟨b, i, none⟩) (Frame.refl _ w) rfl u
 exact ⟨h.s.frame f (fun k hk e => hn (.inl (e ▸ hk))), h.t.frame f (fun k hk e => hn (.inr (e ▸ hk))), h.lo, h.ap, h.old.trans (f.below h.old.size (fun k hk => by omega))⟩
theorem Two.drawn (h : Two w0 w p bP bS q bQ bT ms mt) (n : Nat) : Two w0 (w.drewN n) p bP bS q bQ bT ms mt := by
 have f : Frame (fun _ => False) w (w.drewN n) := (Frame.refl _ w).drewN n
 exact ⟨h.s.frame f (fun _ _ e => e), h.t.frame f (fun _ _ e => e), h.lo, h.ap, h.old.trans (f.below h.old.size (fun k hk => hk.elim))⟩
theorem Two.drew (h : Two w0 w p bP bS q bQ bT ms mt) : Two w0 w.drew p bP bS q bQ bT ms mt := by
 have f : Frame (fun _ => False) w w.drew := (Frame.refl _ w).drew
 exact ⟨h.s.frame f (fun _ _ e => e), h.t.frame f (fun _ _ e => e), h.lo, h.ap, h.old.trans (f.below h.old.size (fun k hk => hk.elim))⟩
theorem Two.below (h : Two w0 w p bP bS q bQ bT ms mt) (hb : Below w.heap.size w w') : Two w0 w' p bP bS q bQ bT ms mt := by
 have h1 := h.s.hi
 have h2 := h.t.hi
 have f : Frame (fun k => w.heap.size ≤ k) w w' := ⟨hb.os, hb.tape, hb.output, hb.size, fun i hi _ => hb.block i hi⟩
 exact ⟨h.s.frame f (fun k hk e => by unfold Own at hk; omega), h.t.frame f (fun k hk e => by unfold Own at hk; omega), h.lo, h.ap, h.old.trans (hb.mono h.old.size)⟩
end
end Go.Proofs.Ytmikcfddipldnaa.Sets
namespace Go.Proofs.Ytmikcfddipldnaa.PureR
open Go.RowKit Go.Proofs.YtmikcfddipldnaaW.PrintWords Go.Proofs.YtmikcfddipldnaaW.PrintLast Go.Proofs.YtmikcfddipldnaaW.PrintMore Go.Proofs.Ytmikcfddipldnaa.Sets
set_option linter.unusedVariables false
set_option linter.unusedSimpArgs false
theorem wadd {i n : Nat} (h : i < n) (hn : n ≤ 9000000) : wrap64 ((i : Int) + 1) = ((i + 1 : Nat) : Int) := by rw [IntWalk.wrap64_in _ (by omega)]; omega
def roots (m : List Nat) (i : Nat) : Nat := (List.range i).countP fun j => gt m j == j
theorem roots_succ (m : List Nat) (i : Nat) : roots m (i + 1) = roots m i + if gt m i = i then 1 else 0 := by
 unfold roots
 rw [List.range_succ, List.countP_append]
 by_cases h : gt m i = i <;> simp [h]
section
variable {n : Nat} {E : Nat → Nat → Prop} {m : List Nat}
theorem num_at (h : Part n E m) : ∀ k, k ≤ n → ∀ a, a < k → gt (numTo m k).1 a = roots m (gt m a) := by
 intro k
 induction k with
 | zero => intro _ a ha; omega
 | succ k ih =>
   intro hk a ha
   have hl := numTo_length m k
   have hle := h.le k (by omega)
   have hcn := numTo_sets h k (by omega)
   unfold numTo
   by_cases c : gt m k < k
   · rw [if_pos c]
     rcases Nat.lt_or_ge a k with h1 | h1
     · rw [gt_snoc_lt (by omega), ih (by omega) a h1]
     · obtain rfl : a = k := by omega
       rw [gt_snoc_eq (by omega), ih (by omega) _ c, h.idem (by omega)]
   · rw [if_neg c]
     rcases Nat.lt_or_ge a k with h1 | h1
     · rw [gt_snoc_lt (by omega), ih (by omega) a h1]
     · obtain rfl : a = k := by omega
       rw [gt_snoc_eq (by omega), hcn, show gt m a = a by omega]
       rfl
theorem roots_mono (m : List Nat) {a b : Nat} (h : a ≤ b) : roots m a ≤ roots m b := by
 induction b with
 | zero => obtain rfl : a = 0 := by omega
           exact Nat.le_refl _
 | succ b ih =>
   rcases Nat.lt_or_ge a (b + 1) with h1 | h1
   · have := ih (by omega)
     rw [roots_succ]; omega
   · obtain rfl : a = b + 1 := by omega
     exact Nat.le_refl _
theorem roots_inj (m : List Nat) {a b : Nat} (ha : gt m a = a) (hb : gt m b = b) (h : roots m a = roots m b) : a = b := by
 rcases Nat.lt_trichotomy a b with c | c | c
 · have h1 := roots_mono m (show a + 1 ≤ b by omega)
   rw [roots_succ, if_pos ha] at h1; omega
 · exact c
 · have h1 := roots_mono m (show b + 1 ≤ a by omega)
   rw [roots_succ, if_pos hb] at h1; omega
theorem roots_lt {i : Nat} (hi : i < n) (hr : gt m i = i) : roots m i < roots m n := by
 have h1 := roots_mono m (show i + 1 ≤ n by omega)
 rw [roots_succ, if_pos hr] at h1; omega
end
end Go.Proofs.Ytmikcfddipldnaa.PureR
namespace Go.Proofs.Ytmikcfddipldnaa.Rot
open Go.RowKit Go.Proofs.YtmikcfddipldnaaW.PrintWords Go.Proofs.YtmikcfddipldnaaW.PrintLast Go.Proofs.YtmikcfddipldnaaW.PrintMore Go.Proofs.Ytmikcfddipldnaa.GAll Go.Proofs.Ytmikcfddipldnaa.Mem Go.Proofs.Ytmikcfddipldnaa.Ring Go.Proofs.Ytmikcfddipldnaa.Face
set_option linter.unusedVariables false
set_option linter.unusedSimpArgs false
def parT (n : Nat) (l : List Ed) (t : Nat) : List Nat := Sets.joinAll (List.range n) ((ends l).take t)
section
variable {n : Nat} {l : List Ed} {r : List (List Int)}
theorem parT_part (n : Nat) (l : List Ed) (t : Nat) : Sets.Part n (Sets.EP n ((ends l).take t)) (parT n l t) := Sets.joinAll_part n _
theorem ends_in (hg : PureV.Good (n : Int) l) {t : Nat} (ht : t < l.length) : ∃ u v : Nat, (Sets.pe (ends l) t) = ((u : Int), (v : Int)) ∧ u < n ∧ v < n ∧ u ≠ v ∧ gi (frs l) (2 * t) = (u : Int) ∧ gi (frs l) (2 * t + 1) = (v : Int) := by
 obtain ⟨⟨a, b, c⟩, _⟩ := hg.2.2.2 t ht
 have e : Sets.pe (ends l) t = ((PureV.rdE l (t : Nat)).f0, (PureV.rdE l (t : Nat)).f1) := pe_ends ht
 refine ⟨(PureV.rdE l (t : Nat)).f0.toNat, (PureV.rdE l (t : Nat)).f1.toNat, ?_, by omega, by omega, by omega, ?_, ?_⟩
 · rw [e, Int.toNat_of_nonneg (by omega), Int.toNat_of_nonneg (by omega)]
 · rw [frs_even ht, Int.toNat_of_nonneg (by omega)]
 · rw [frs_odd ht, Int.toNat_of_nonneg (by omega)]
theorem parT_succ (n : Nat) (l : List Ed) {t : Nat} (ht : t < l.length) : parT n l (t + 1) = (Sets.joinOf (parT n l t) (Sets.pe (ends l) t).1 (Sets.pe (ends l) t).2).1 := Sets.joinAll_take _ _ (by rw [ends_length]; exact ht)
theorem bound (hm : IsMap n l r) : ∀ t, t ≤ l.length → ∃ L', Dec (upTo (nxf l r) t) L' ∧ L'.flatten.Perm (full (rowsN r)).flatten ∧ Within (fun h => Sets.gt (parT n l t) (gi (frs l) h).toNat) L' ∧ L'.length + 2 * n ≤ (full (rowsN r)).length + t + 2 * Sets.sets (parT n l t)
 | 0, _ => by
   refine ⟨full (rowsN r), by rw [upTo_zero]; exact hm.dec.1, List.Perm.refl _, fun L hL x hx y hy => ?_, ?_⟩
   · unfold full at hL
     rw [List.mem_filter] at hL
     obtain ⟨row, hrow, rfl⟩ := List.mem_map.1 hL.1
     obtain ⟨v, hv, rfl⟩ := gl_ge hrow
     have hvn : v < n := by have := hm.rot.len; omega
     have h1 := (hm.row_at hvn).1 hx
     have h2 := (hm.row_at hvn).1 hy
     simp only [h1.2, h2.2]
   · have e : Sets.sets (parT n l 0) = n := by
       have h := (Sets.sets_yes n (ends l) 0 (Nat.zero_le _))
       have h2 : Sets.yesTo (List.range n) (ends l) 0 = 0 := rfl
       rw [h2] at h
       exact h
     rw [e]; omega
 | t + 1, ht => by
   obtain ⟨L1, d1, d2, d3, d4⟩ := bound hm t (by omega)
   obtain ⟨u, v, epe, hu, hv, huv, e1, e2⟩ := ends_in hm.good (t := t) (by omega)
   have hP := parT_part n l t
   have hs := Sets.sets_join hP (Sets.pe (ends l) t).1 (Sets.pe (ends l) t).2
   have hsu := parT_succ n l (t := t) (by omega)
   rw [epe] at hs hsu
   simp only at hs hsu
   have ha : 2 * t ∈ L1.flatten := by rw [d2.mem_iff, full_flatten, hm.rows_flat.2]; omega
   have hb : 2 * t + 1 ∈ L1.flatten := by rw [d2.mem_iff, full_flatten, hm.rows_flat.2]; omega
   obtain ⟨L2, k1, k2, k3, k4⟩ := d1.swap (g := upTo (nxf l r) (t + 1)) ha hb (by omega) (upTo_a _ t) (upTo_b _ t) (upTo_other _ t)
   have hlen := hP.len
   by_cases c : Sets.gt (parT n l t) u = Sets.gt (parT n l t) v
   · rw [Sets.joinOf_same c] at hs hsu
     simp only [Bool.false_eq_true, if_false, Nat.add_zero] at hs hsu
     rw [hsu]
     refine ⟨L2, k1, k2.trans d2, k3 _ ?_ d3, ?_⟩
     · simp only [e1, e2, Int.toNat_natCast]; exact c
     · rcases k4 with ⟨k4, _⟩ | k4 <;> omega
   · have ej := Sets.joinOf_two (m := parT n l t) (a := u) (b := v) (by omega) (by omega) c
     rw [ej] at hs hsu
     simp only [if_true] at hs hsu
     have hno : L2.length + 1 = L1.length := by
       rcases k4 with ⟨_, q, hq, q1, q2⟩ | k4
       · have := d3 q hq (2 * t) q1 (2 * t + 1) q2
         simp only [e1, e2, Int.toNat_natCast] at this
         exact absurd this c
       · exact k4
     have hgl : ∀ i, i < n → Sets.gt (parT n l (t + 1)) i = if Sets.gt (parT n l t) i = max (Sets.gt (parT n l t) u) (Sets.gt (parT n l t) v) then min (Sets.gt (parT n l t) u) (Sets.gt (parT n l t) v) else Sets.gt (parT n l t) i := fun i hi => by
       rw [hsu]; exact Sets.glue_get _ _ _ (by omega)
     have hin : ∀ x, x ∈ L1.flatten → (gi (frs l) x).toNat < n := fun x hx => by
       rw [d2.mem_iff, full_flatten, hm.rows_flat.2] at hx
       have := frs_range hm.good hx
       omega
     refine ⟨L2, k1, k2.trans d2, k3 _ ?_ (fun q hq x hx y hy => ?_), ?_⟩
     · simp only [e1, e2, Int.toNat_natCast]
       rw [hgl u hu, hgl v hv]
       rcases Nat.le_total (Sets.gt (parT n l t) u) (Sets.gt (parT n l t) v) with q | q
       · rw [Nat.max_eq_right q, Nat.min_eq_left q, if_neg c, if_pos rfl]
       · rw [Nat.max_eq_left q, Nat.min_eq_right q, if_pos rfl, if_neg (fun e => c e.symm)]
     · have h3 := d3 q hq x hx y hy
       simp only at h3 ⊢
       rw [hgl _ (hin x (List.mem_flatten.2 ⟨q, hq, hx⟩)), hgl _ (hin y (List.mem_flatten.2 ⟨q, hq, hy⟩)), h3]
     · rw [← hsu] at hs
       omega
def lone (r : List (List Int)) : Nat := r.countP fun row => row.isEmpty
theorem parT_all (n : Nat) (l : List Ed) : parT n l l.length = Sets.joinAll (List.range n) (ends l) := by
 unfold parT
 rw [List.take_of_length_le (by rw [ends_length]; exact Nat.le_refl _)]
theorem nth_class {f : Nat → Nat} {l : List Nat} {c : Nat → Nat} (h : Ring f l) (hc : ∀ x ∈ l, c (f x) = c x) {x : Nat} (hx : x ∈ l) : ∀ k, c (Ring.nth f x k) = c x
 | 0 => rfl
 | k + 1 => by
   show c (f (Ring.nth f x k)) = c x
   rw [hc _ (h.nth hx k), nth_class h hc hx k]
theorem ring_class {f : Nat → Nat} {l : List Nat} {c : Nat → Nat} (h : Ring f l) (hc : ∀ x ∈ l, c (f x) = c x) : ∀ x ∈ l, c x = c (l.headD 0) := by
 intro x hx
 cases l with
 | nil => cases hx
 | cons a t =>
   have h2 := ring_cons.1 h
   obtain ⟨k, rfl⟩ := lead_nth t a h2 x hx
   exact nth_class h hc (List.mem_cons_self ..) k
def pick (c : Nat → Nat) (k : Nat) (L : List (List Nat)) : List (List Nat) := L.filter fun l => c (l.headD 0) == k
theorem flatten_filter_sub (p : List Nat → Bool) : ∀ L : List (List Nat), (L.filter p).flatten.Sublist L.flatten
 | [] => List.Sublist.slnil
 | a :: L => by
   have ih := flatten_filter_sub p L
   rw [List.filter_cons]
   split
   · rw [List.flatten_cons, List.flatten_cons]
     exact (List.Sublist.refl a).append ih
   · rw [List.flatten_cons]
     exact ih.trans (List.sublist_append_right a _)
theorem pick_dec {f : Nat → Nat} {c : Nat → Nat} {k : Nat} {L : List (List Nat)} (h : Dec f L) : Dec f (pick c k L) := by
 refine ⟨fun l hl => h.ring l (List.mem_filter.1 hl).1, ?_⟩
 exact List.Nodup.sublist (flatten_filter_sub _ L) h.nodup
theorem pick_mem {f : Nat → Nat} {c : Nat → Nat} {k : Nat} {L : List (List Nat)} (h : Dec f L) (hc : ∀ x ∈ L.flatten, c (f x) = c x) (x : Nat) : x ∈ (pick c k L).flatten ↔ x ∈ L.flatten ∧ c x = k := by
 rw [List.mem_flatten, List.mem_flatten]
 constructor
 · rintro ⟨l, hl, hx⟩
   obtain ⟨h1, h2⟩ := List.mem_filter.1 hl
   refine ⟨⟨l, h1, hx⟩, ?_⟩
   rw [ring_class (h.ring l h1) (fun y hy => hc y (List.mem_flatten.2 ⟨l, h1, hy⟩)) x hx]
   simpa using h2
 · rintro ⟨⟨l, h1, hx⟩, h2⟩
   refine ⟨l, List.mem_filter.2 ⟨h1, ?_⟩, hx⟩
   rw [ring_class (h.ring l h1) (fun y hy => hc y (List.mem_flatten.2 ⟨l, h1, hy⟩)) x hx] at h2
   simpa using h2
structure Cls (n : Nat) (l : List Ed) (c : Nat → Nat) (cv : Nat → Nat) : Prop where
 half : ∀ h, h < 2 * l.length → c h = cv (gi (frs l) h).toNat
 edge : ∀ e, e < l.length → c (2 * e) = c (2 * e + 1)
theorem Cls.twn {c cv : Nat → Nat} (hc : Cls n l c cv) {h : Nat} (hh : h < 2 * l.length) : c (Ring.twn h) = c h := by
 unfold Ring.twn
 split
 · have e : h = 2 * (h / 2) := by omega
   have := hc.edge (h / 2) (by omega)
   rw [← e] at this
   exact this.symm
 · have e : h - 1 = 2 * (h / 2) := by omega
   have e2 : h = 2 * (h / 2) + 1 := by omega
   have := hc.edge (h / 2) (by omega)
   rw [← e2, ← e] at this
   exact this
theorem Cls.nxf {c cv : Nat → Nat} (hc : Cls n l c cv) (hm : IsMap n l r) {h : Nat} (hh : h < 2 * l.length) : c (Rot.nxf l r h) = c h := by
 have h1 := next_in hm.rot (nxOf_next hm.rot) (frs_in hm.good) (x := h) (by rw [frs_length]; exact hh)
 rw [frs_length, hm.nxf_eq hh, Int.toNat_natCast] at h1
 rw [hc.half _ (by omega), hc.half h hh, h1.2.2]
theorem Cls.stf {c cv : Nat → Nat} (hc : Cls n l c cv) (hm : IsMap n l r) {h : Nat} (hh : h < 2 * l.length) : c (Rot.stf l r h) = c h := by
 rw [stf_eq hh, hc.nxf hm (twn_lt hh), hc.twn hh]
theorem class_even (hm : IsMap n l r) {F : List (List Nat)} (hF : Faces (stf l r) (2 * l.length) F) {c cv : Nat → Nat} (hc : Cls n l c cv) (k : Nat) :
   ((pick c k F).length + (pick c k (full (rowsN r))).length + (List.range l.length).countP (fun e => c (2 * e) == k)) % 2 = 0 := by
 have hd := hm.dec
 have m1 : ∀ x, x ∈ (full (rowsN r)).flatten ↔ x < 2 * l.length := fun x => by rw [full_flatten, hm.rows_flat.2]
 have p1 := fun x => pick_mem (c := c) (k := k) hd.1 (fun x hx => hc.nxf hm ((m1 x).1 hx)) x
 obtain ⟨L', d1, d2, d3, _⟩ := parity (pick_dec (c := c) (k := k) hd.1) (fun e => by
   rw [p1, p1, m1, m1]
   constructor
   · rintro ⟨a, b⟩
     exact ⟨by omega, by rw [← hc.edge e (by omega)]; exact b⟩
   · rintro ⟨a, b⟩
     exact ⟨by omega, by rw [hc.edge e (by omega)]; exact b⟩) l.length
 have m2 : ∀ x, x ∈ F.flatten ↔ x < 2 * l.length := fun x => by rw [hF.perm.mem_iff, List.mem_range]
 have p2 := fun x => pick_mem (c := c) (k := k) hF.dec (fun x hx => hc.stf hm ((m2 x).1 hx)) x
 have hp : (pick c k F).flatten.Perm L'.flatten := by
   refine perm_of_same (pick_dec hF.dec).nodup d1.nodup (fun x => ?_)
   rw [p2, d2.mem_iff, p1, m1, m2]
 have h2 := (Dec.unique (fun _ => ()) (fun _ _ _ => rfl) (pick c k F) L' (pick_dec hF.dec) d1 hp).length_eq
 rw [List.length_map, List.length_map] at h2
 have h3 : inn (pick c k (full (rowsN r))).flatten l.length = (List.range l.length).countP (fun e => c (2 * e) == k) := by
   unfold inn
   refine List.countP_congr fun e he => ?_
   rw [List.mem_range] at he
   rw [decide_eq_true_eq, p1, m1, beq_iff_eq]
   exact ⟨fun q => q.2, fun q => ⟨by omega, q⟩⟩
 rw [h3] at d3
 omega
end
end Go.Proofs.Ytmikcfddipldnaa.Rot
namespace Go.Proofs.Ytmikcfddipldnaa.Rot
open Go.RowKit Go.Proofs.YtmikcfddipldnaaW.PrintWords Go.Proofs.YtmikcfddipldnaaW.PrintLast Go.Proofs.YtmikcfddipldnaaW.PrintMore Go.Proofs.Ytmikcfddipldnaa.GAll Go.Proofs.Ytmikcfddipldnaa.Mem Go.Proofs.Ytmikcfddipldnaa.Ring Go.Proofs.Ytmikcfddipldnaa.Face
set_option linter.unusedVariables false
set_option linter.unusedSimpArgs false
theorem sum_ite (c : Nat) {a : Nat} (h : a < c) : ((List.range c).map fun k => if a = k then (1 : Int) else 0).sum = 1 := by
 induction c with
 | zero => omega
 | succ c ih =>
   rw [List.range_succ, List.map_append, List.sum_append]
   by_cases e : a = c
   · subst e
     have h0 : ((List.range a).map fun k => if a = k then (1 : Int) else 0).sum = 0 := by
       have : (List.range a).map (fun k => if a = k then (1 : Int) else 0) = (List.range a).map fun _ => (0 : Int) := List.map_congr_left fun k hk => by
         rw [List.mem_range] at hk
         exact if_neg (by omega)
       rw [this]
       clear this ih h
       induction a with
       | zero => rfl
       | succ a ih => rw [List.range_succ, List.map_append, List.sum_append, ih]; rfl
     rw [h0]; simp
   · rw [ih (by omega)]; simp [e]
theorem sum_add (c : Nat) (f g : Nat → Int) : ((List.range c).map fun k => f k + g k).sum = ((List.range c).map f).sum + ((List.range c).map g).sum := by
 induction c with
 | zero => rfl
 | succ c ih => rw [List.range_succ, List.map_append, List.map_append, List.map_append, List.sum_append, List.sum_append, List.sum_append, ih]; simp; omega
theorem sum_congr {c : Nat} {f g : Nat → Int} (h : ∀ k, k < c → f k = g k) : ((List.range c).map f).sum = ((List.range c).map g).sum := by
 congr 1
 exact List.map_congr_left fun k hk => h k (List.mem_range.1 hk)
theorem sum_zero (c : Nat) : ((List.range c).map fun _ => (0 : Int)).sum = 0 := by
 induction c with
 | zero => rfl
 | succ c ih => rw [List.range_succ, List.map_append, List.sum_append, ih]; rfl
theorem sum_count {α : Type} (c : Nat) (g : α → Nat) : ∀ L : List α, (∀ x ∈ L, g x < c) → ((List.range c).map fun k => ((L.countP fun x => g x == k : Nat) : Int)).sum = L.length
 | [], _ => by
   simp only [List.countP_nil, List.length_nil]
   exact sum_zero c
 | a :: L, h => by
   have ih := sum_count c g L (fun x hx => h x (List.mem_cons_of_mem _ hx))
   have e : ∀ k, k < c → (((a :: L).countP fun x => g x == k : Nat) : Int) = ((L.countP fun x => g x == k : Nat) : Int) + (if g a = k then (1 : Int) else 0) := fun k _ => by
     rw [List.countP_cons]
     by_cases q : g a = k
     · simp [q]
     · simp [q]
   rw [sum_congr e, sum_add, ih, sum_ite c (h a (List.mem_cons_self ..))]
   simp
def num (P : List Nat) (v : Nat) : Nat := PureR.roots P (Sets.gt P v)
theorem roots_onto (P : List Nat) : ∀ n k, k < PureR.roots P n → ∃ i, i < n ∧ Sets.gt P i = i ∧ PureR.roots P i = k
 | 0, k, h => by simp [PureR.roots] at h
 | n + 1, k, h => by
   rw [PureR.roots_succ] at h
   by_cases c : k < PureR.roots P n
   · obtain ⟨i, h1, h2⟩ := roots_onto P n k c
     exact ⟨i, by omega, h2⟩
   · by_cases e : Sets.gt P n = n
     · rw [if_pos e] at h
       exact ⟨n, by omega, e, by omega⟩
     · rw [if_neg e] at h; omega
structure IsComp (n : Nat) (l : List Ed) (r : List (List Int)) (og : List Int) (c : Nat) : Prop where
 len : og.length = n
 key : ∀ k, k ∈ og ↔ 0 ≤ k ∧ k < (c : Int)
 edge : ∀ e, e < l.length → gi og (gi (frs l) (2 * e)).toNat = gi og (gi (frs l) (2 * e + 1)).toNat
 two : ∀ v w, v < n → w < n → v ≠ w → gi og v = gi og w → gl r v ≠ []
section
variable {n : Nat} {l : List Ed} {r : List (List Int)}
def ogOf (n : Nat) (l : List Ed) : List Int := (comps_Of.out (n : Int) l).1.map fun (x : Nat) => (x : Int)
theorem out_eq (n : Nat) (l : List Ed) : comps_Of.out (n : Int) l = Sets.numTo (parT n l l.length) n := by
 rw [parT_all]
 unfold comps_Of.out
 rw [Int.toNat_natCast]
 rfl
theorem parts_sets (n : Nat) (l : List Ed) : parts n l = Sets.sets (parT n l l.length) := by
 unfold parts
 rw [out_eq]
 have h := parT_part n l l.length
 have := Sets.numTo_all h
 rw [h.len] at this
 exact this
theorem parts_roots (n : Nat) (l : List Ed) : parts n l = PureR.roots (parT n l l.length) n := by
 unfold parts
 rw [out_eq]
 exact Sets.numTo_sets (parT_part n l l.length) n (Nat.le_refl _)
theorem gi_og {v : Nat} (hv : v < n) : gi (ogOf n l) v = (num (parT n l l.length) v : Int) := by
 have h := PureR.num_at (parT_part n l l.length) n (Nat.le_refl _) v hv
 have hl := Sets.numTo_length (parT n l l.length) n
 unfold ogOf
 rw [out_eq]
 unfold num
 rw [← h]
 unfold gi Sets.gt
 rw [List.getD_eq_getElem?_getD, List.getD_eq_getElem?_getD, List.getElem?_map, List.getElem?_eq_getElem (by rw [hl]; exact hv)]
 rfl
theorem conn_edge {es : List (Int × Int)} {v w : Nat} (h : Sets.Conn (Sets.EP n es) v w) : v = w ∨ ∃ x, Sets.EP n es v x ∨ Sets.EP n es x v := by
 induction h with
 | refl => exact .inl rfl
 | fwd _ e ih =>
   rcases ih with rfl | ih
   · exact .inr ⟨_, .inl e⟩
   · exact .inr ih
 | bwd _ e ih =>
   rcases ih with rfl | ih
   · exact .inr ⟨_, .inr e⟩
   · exact .inr ih
theorem IsMap.row_ne (hm : IsMap n l r) {v h : Nat} (hv : v < n) (hh : h < 2 * l.length) (e : gi (frs l) h = (v : Int)) : gl r v ≠ [] := by
 intro q
 have := (hm.row_at hv).2 ⟨hh, e⟩
 rw [q] at this
 cases this
theorem IsMap.row_of (hm : IsMap n l r) {v : Nat} (hv : v < n) (h : gl r v ≠ []) : ∃ h, h < 2 * l.length ∧ gi (frs l) h = (v : Int) := by
 obtain ⟨x, hx⟩ := List.exists_mem_of_ne_nil (fN (gl r v)) (by unfold fN; simpa using h)
 exact ⟨x, (hm.row_at hv).1 hx⟩
theorem IsMap.comp (hm : IsMap n l r) : IsComp n l r (ogOf n l) (parts n l) := by
 have hP := parT_part n l l.length
 rw [List.take_of_length_le (by rw [ends_length]; exact Nat.le_refl _)] at hP
 have hlen : (ogOf n l).length = n := by unfold ogOf; rw [List.length_map, out_eq]; exact Sets.numTo_length _ _
 refine ⟨hlen, fun k => ⟨fun hk => ?_, fun hk => ?_⟩, fun e he => ?_, fun v w hv hw hne e => ?_⟩
 · obtain ⟨v, hv, rfl⟩ := List.getElem_of_mem hk
   have hvn : v < n := by omega
   have e : (ogOf n l)[v] = gi (ogOf n l) v := (gi_get0 hv).symm
   rw [e, gi_og hvn, parts_roots]
   have := PureR.roots_lt (n := n) (m := parT n l l.length) (hP.lt hvn) (hP.idem hvn)
   unfold num
   omega
 · obtain ⟨j, rfl⟩ := Int.eq_ofNat_of_zero_le hk.1
   have hj : j < PureR.roots (parT n l l.length) n := by rw [← parts_roots]; omega
   obtain ⟨i, h1, h2, h3⟩ := roots_onto _ n j hj
   have e : (j : Int) = gi (ogOf n l) i := by rw [gi_og h1]; unfold num; rw [h2, h3]
   rw [e, gi_get0 (by omega)]
   exact List.getElem_mem _
 · obtain ⟨u, v, epe, hu, hv, huv, e1, e2⟩ := ends_in hm.good he
   rw [e1, e2, Int.toNat_natCast, Int.toNat_natCast, gi_og hu, gi_og hv]
   have : Sets.EP n (ends l) u v := ⟨hu, hv, by rw [← epe]; exact Sets.pe_mem (by rw [ends_length]; exact he)⟩
   unfold num
   rw [hP.edge u v this]
 · rw [gi_og hv, gi_og hw] at e
   have h1 := PureR.roots_inj (parT n l l.length) (hP.idem hv) (hP.idem hw) (by unfold num at e; omega)
   rcases conn_edge ((hP.iff hv hw).1 h1) with q | ⟨x, q | q⟩
   · exact absurd q hne
   · obtain ⟨_, hx, hmem⟩ := q
     obtain ⟨j, hj, ej⟩ := Sets.mem_pe hmem
     rw [ends_length] at hj
     obtain ⟨u, v', epe, hu, hv', huv, e1, e2⟩ := ends_in hm.good hj
     rw [ej] at epe
     simp only [Prod.mk.injEq] at epe
     exact hm.row_ne hv (h := 2 * j) (by omega) (by rw [e1]; omega)
   · obtain ⟨hx, _, hmem⟩ := q
     obtain ⟨j, hj, ej⟩ := Sets.mem_pe hmem
     rw [ends_length] at hj
     obtain ⟨u, v', epe, hu, hv', huv, e1, e2⟩ := ends_in hm.good hj
     rw [ej] at epe
     simp only [Prod.mk.injEq] at epe
     exact hm.row_ne hv (h := 2 * j + 1) (by omega) (by rw [e2]; omega)
def cv (og : List Int) (v : Nat) : Nat := (gi og v).toNat
def ch (og : List Int) (l : List Ed) (h : Nat) : Nat := cv og (gi (frs l) h).toNat
theorem IsComp.cls {og : List Int} {c : Nat} (h : IsComp n l r og c) : Cls n l (ch og l) (cv og) := ⟨fun _ _ => rfl, fun e he => by unfold ch cv; rw [h.edge e he]⟩
theorem IsComp.cv {og : List Int} {c : Nat} (h : IsComp n l r og c) {v : Nat} (hv : v < n) : gi og v = (cv og v : Int) ∧ cv og v < c := by
 have h1 : gi og v ∈ og := by rw [gi_get0 (by rw [h.len]; exact hv)]; exact List.getElem_mem _
 have := (h.key _).1 h1
 unfold Rot.cv
 omega
theorem pe_frs {j : Nat} (hj : j < l.length) : (pe (ends l) j).1 = gi (frs l) (2 * j) := by rw [pe_ends hj, frs_even hj]
theorem countP_range_map {α : Type} (L : List α) (d : α) (p : α → Bool) : L.countP p = (List.range L.length).countP fun i => p (L.getD i d) := by
 have e : L = (List.range L.length).map fun i => L.getD i d := by
   apply List.ext_getElem
   · simp
   · intro i h1 h2
     simp [List.getD_eq_getElem?_getD, h1]
 conv => lhs; rw [e]
 rw [List.countP_map]
 rfl
theorem IsComp.ni {og : List Int} {c : Nat} (h : IsComp n l r og c) (k : Nat) : Cnt.cntTo og og.length (k : Int) = ((List.range n).countP fun v => Rot.cv og v == k : Nat) := by
 unfold Cnt.cntTo
 rw [List.take_length, countP_range_map og 0, h.len]
 congr 1
 refine List.countP_congr fun v hv => ?_
 rw [List.mem_range] at hv
 have := (h.cv hv).1
 show (gi og v == (k : Int)) = true ↔ _
 rw [this, beq_iff_eq, beq_iff_eq]
 omega
theorem IsComp.mi {og : List Int} {c : Nat} (h : IsComp n l r og c) (hm : IsMap n l r) (k : Nat) : Cnt.cntTo (Cnt.ksE og (ends l)) (ends l).length (k : Int) = ((List.range l.length).countP fun e => ch og l (2 * e) == k : Nat) := by
 unfold Cnt.cntTo
 have e : (Cnt.ksE og (ends l)).length = (ends l).length := by unfold Cnt.ksE; simp
 rw [List.take_of_length_le (by omega), countP_range_map _ 0, e, ends_length]
 congr 1
 refine List.countP_congr fun j hj => ?_
 rw [List.mem_range] at hj
 have h1 := frs_range hm.good (h := 2 * j) (by omega)
 have h2 := (h.cv (v := (gi (frs l) (2 * j)).toNat) (by omega)).1
 have h3 := Cnt.gi_ksE og (ends l) (j := j) (by rw [ends_length]; exact hj)
 show (gi (Cnt.ksE og (ends l)) j == (k : Int)) = true ↔ _
 rw [h3, pe_frs hj, h2, beq_iff_eq, beq_iff_eq]
 unfold ch
 omega
theorem IsComp.fi {og : List Int} {c : Nat} (h : IsComp n l r og c) (hm : IsMap n l r) {F : List (List Nat)} (hF : Faces (stf l r) (2 * l.length) F) (k : Nat) : Cnt.cntTo (Cnt.ksF og (ends l) (F.map zN)) (F.map zN).length (k : Int) = (F.countP fun L => ch og l (L.headD 0) == k : Nat) := by
 unfold Cnt.cntTo Cnt.ksF
 rw [List.take_of_length_le (by simp), List.map_map, List.countP_map]
 congr 1
 refine List.countP_congr fun L hL => ?_
 have hr := hF.dec.ring L hL
 have hx : L.headD 0 ∈ L := by
   cases L with
   | nil => exact absurd rfl hr.1
   | cons a t => simp
 have hlt : L.headD 0 < 2 * l.length := by
   have := hF.perm.mem_iff.1 (List.mem_flatten.2 ⟨L, hL, hx⟩)
   rw [List.mem_range] at this
   exact this
 have e0 : gi (zN L) 0 = (L.headD 0 : Int) := by
   cases L with
   | nil => exact absurd rfl hr.1
   | cons a t => rfl
 have hj : L.headD 0 / 2 < l.length := by omega
 have h1 := frs_range hm.good (h := 2 * (L.headD 0 / 2)) (by omega)
 have h2 := (h.cv (v := (gi (frs l) (2 * (L.headD 0 / 2))).toNat) (by omega)).1
 have h3 : ch og l (2 * (L.headD 0 / 2)) = ch og l (L.headD 0) := by
   rcases Nat.mod_two_eq_zero_or_one (L.headD 0) with q | q
   · rw [show 2 * (L.headD 0 / 2) = L.headD 0 by omega]
   · have := h.cls.edge _ hj
     rw [show 2 * (L.headD 0 / 2) + 1 = L.headD 0 by omega] at this
     exact this
 show (gi og (pe (ends l) ((gi (zN L) 0).toNat / 2)).1.toNat == (k : Int)) = true ↔ _
 rw [e0, Int.toNat_natCast, pe_frs hj, h2, ← h3, beq_iff_eq, beq_iff_eq]
 unfold ch
 omega
theorem pick_rows (hm : IsMap n l r) (og : List Int) (k : Nat) : (pick (ch og l) k (full (rowsN r))).length + (List.range n).countP (fun v => (gl r v).isEmpty && (Rot.cv og v == k)) = (List.range n).countP (fun v => Rot.cv og v == k) := by
 have h1 : (pick (ch og l) k (full (rowsN r))).length = (List.range n).countP (fun v => !(gl r v).isEmpty && (Rot.cv og v == k)) := by
   unfold pick full rowsN
   rw [List.filter_filter, ← List.countP_eq_length_filter, List.countP_map, countP_range_map r [], hm.rot.len]
   refine List.countP_congr fun v hv => ?_
   rw [List.mem_range] at hv
   show ((ch og l ((fN (gl r v)).headD 0) == k) && !(fN (gl r v)).isEmpty) = true ↔ _
   cases hrow : gl r v with
   | nil => simp [fN]
   | cons x t =>
     have hx : x.toNat ∈ fN (gl r v) := by rw [hrow]; simp [fN]
     have := ((hm.row_at hv).1 hx).2
     have e : ch og l ((fN (x :: t)).headD 0) = Rot.cv og v := by
       show Rot.cv og (gi (frs l) x.toNat).toNat = _
       rw [this, Int.toNat_natCast]
     rw [e]
     simp [fN]
 rw [h1]
 have key : ∀ L : List Nat, L.countP (fun v => !(gl r v).isEmpty && (Rot.cv og v == k)) + L.countP (fun v => (gl r v).isEmpty && (Rot.cv og v == k)) = L.countP (fun v => Rot.cv og v == k) := by
   intro L
   induction L with
   | nil => rfl
   | cons a L ih =>
     rw [List.countP_cons, List.countP_cons, List.countP_cons]
     cases (gl r a).isEmpty <;> cases (Rot.cv og a == k) <;> simp <;> omega
 exact key _
theorem countP_pos {α : Type} {p : α → Bool} {L : List α} : 0 < L.countP p ↔ ∃ x ∈ L, p x = true := List.countP_pos_iff
theorem countP_le_one {p : Nat → Bool} : ∀ (L : List Nat), L.Nodup → (∀ x ∈ L, ∀ y ∈ L, p x = true → p y = true → x = y) → L.countP p ≤ 1
 | [], _, _ => by simp
 | a :: L, hn, h => by
   rw [List.nodup_cons] at hn
   have ih := countP_le_one L hn.2 (fun x hx y hy => h x (List.mem_cons_of_mem _ hx) y (List.mem_cons_of_mem _ hy))
   rw [List.countP_cons]
   by_cases c : p a = true
   · have h0 : L.countP p = 0 := by
       rw [List.countP_eq_zero]
       intro x hx hp
       have := h a (List.mem_cons_self ..) x (List.mem_cons_of_mem _ hx) c hp
       exact hn.1 (by rw [this]; exact hx)
     rw [h0, if_pos c]
     exact Nat.le_refl _
   · rw [if_neg c]; omega
theorem IsComp.one {og : List Int} {c : Nat} (h : IsComp n l r og c) (hm : IsMap n l r) {F : List (List Nat)} (hF : Faces (stf l r) (2 * l.length) F) {k : Nat} (hk : k < c) {ni mi fi ii : Nat}
   (h1 : ni = (List.range n).countP fun v => Rot.cv og v == k) (h2 : mi = (List.range l.length).countP fun e => ch og l (2 * e) == k) (h3 : fi = F.countP fun L => ch og l (L.headD 0) == k) (h4 : ii = (List.range n).countP fun v => (gl r v).isEmpty && (Rot.cv og v == k)) :
   2 * Cnt.term (ni : Int) (mi : Int) (fi : Int) = 2 - (ni : Int) + mi - fi - ii := by
 have hev := class_even hm hF h.cls k
 have hpr := pick_rows hm og k
 have hpf : (pick (ch og l) k F).length = fi := by rw [h3]; unfold pick; rw [← List.countP_eq_length_filter]
 rw [hpf, ← h2] at hev
 rw [← h4, ← h1] at hpr
 have hedge : ∀ x, x < 2 * l.length → ch og l x = k → 0 < mi := fun x hx e => by
   rw [h2, countP_pos]
   refine ⟨x / 2, by rw [List.mem_range]; omega, ?_⟩
   rw [beq_iff_eq, ← e]
   rcases Nat.mod_two_eq_zero_or_one x with q | q
   · rw [show 2 * (x / 2) = x by omega]
   · have := h.cls.edge (x / 2) (by omega)
     rw [show 2 * (x / 2) + 1 = x by omega] at this
     exact this
 have hrow : ∀ v, v < n → Rot.cv og v = k → gl r v ≠ [] → 0 < mi := fun v hv e hne => by
   obtain ⟨x, hx, ex⟩ := hm.row_of hv hne
   exact hedge x hx (by unfold ch; rw [ex, Int.toNat_natCast]; exact e)
 have htwo : ∀ v w, v < n → w < n → v ≠ w → Rot.cv og v = Rot.cv og w → gl r v ≠ [] := fun v w hv hw hne e => h.two v w hv hw hne (by rw [(h.cv hv).1, (h.cv hw).1, e])
 by_cases c0 : 0 < mi
 · have hi0 : ii = 0 := by
     rw [h4, List.countP_eq_zero]
     intro v hv
     rw [List.mem_range] at hv
     intro q
     rw [Bool.and_eq_true, beq_iff_eq, List.isEmpty_iff] at q
     rw [h2, countP_pos] at c0
     obtain ⟨e, he, ee⟩ := c0
     rw [List.mem_range] at he
     rw [beq_iff_eq] at ee
     have hfr := frs_range hm.good (h := 2 * e) (by omega)
     obtain ⟨u, hu⟩ := Int.eq_ofNat_of_zero_le hfr.1
     by_cases cu : u = v
     · subst cu
       exact hm.row_ne hv (h := 2 * e) (by omega) hu q.1
     · exact htwo v u hv (by omega) (fun x => cu x.symm) (by
         rw [q.2, ← ee]
         unfold ch
         rw [hu]; rfl) q.1
   unfold Cnt.term
   rw [if_pos (by omega), Cnt.tdiv2]
   split <;> omega
 · have hn1 : ni = 1 := by
     have hle : ni ≤ 1 := by
       rw [h1]
       refine countP_le_one _ List.nodup_range (fun x hx y hy px py => Decidable.byContradiction fun hne => ?_)
       rw [List.mem_range] at hx hy
       rw [beq_iff_eq] at px py
       exact c0 (hrow x hx px (htwo x y hx hy hne (by rw [px, py])))
     have hge : 0 < ni := by
       rw [h1, countP_pos]
       have hmem := (h.key (k : Int)).2 ⟨by omega, by omega⟩
       obtain ⟨v, hv, e⟩ := List.getElem_of_mem hmem
       rw [← gi_get0 hv] at e
       refine ⟨v, by rw [List.mem_range, ← h.len]; exact hv, ?_⟩
       rw [beq_iff_eq]
       unfold Rot.cv
       rw [e]; rfl
     omega
   have hii : ii = ni := by
     rw [h4, h1]
     refine List.countP_congr fun v hv => ?_
     rw [List.mem_range] at hv
     rw [Bool.and_eq_true, beq_iff_eq, List.isEmpty_iff]
     refine ⟨fun q => q.2, fun q => ⟨Decidable.byContradiction fun hne => c0 (hrow v hv q hne), q⟩⟩
   have hfi : fi = 0 := by
     rw [h3, List.countP_eq_zero]
     intro L hL q
     rw [beq_iff_eq] at q
     have hr := hF.dec.ring L hL
     have hx : L.headD 0 ∈ L := by
       cases L with
       | nil => exact absurd rfl hr.1
       | cons a t => simp
     have := hF.perm.mem_iff.1 (List.mem_flatten.2 ⟨L, hL, hx⟩)
     rw [List.mem_range] at this
     exact c0 (hedge _ this q)
   unfold Cnt.term
   rw [if_neg (by omega)]
   omega
theorem IsComp.lt {og : List Int} {c : Nat} (h : IsComp n l r og c) (hm : IsMap n l r) {x : Nat} (hx : x < 2 * l.length) : ch og l x < c := by
 have := frs_range hm.good hx
 exact (h.cv (v := (gi (frs l) x).toNat) (by omega)).2
theorem lone_count (hm : IsMap n l r) : lone r = (List.range n).countP fun v => (gl r v).isEmpty := by
 unfold lone
 rw [countP_range_map r [], hm.rot.len]
 rfl
theorem IsComp.twice {og : List Int} {c : Nat} (h : IsComp n l r og c) (hm : IsMap n l r) {F : List (List Nat)} (hF : Faces (stf l r) (2 * l.length) F) :
   2 * Cnt.genusSum og (ends l) (F.map zN) c = 2 * (c : Int) - n + l.length - F.length - lone r := by
 have e2 : ∀ (f : Nat → Int), 2 * ((List.range c).map f).sum = ((List.range c).map fun k => 2 * f k).sum := fun f => by
   have := sum_add c f f
   rw [show (fun k => 2 * f k) = fun k => f k + f k from funext fun k => by omega, this]
   omega
 unfold Cnt.genusSum
 rw [e2]
 have hone : ∀ k, k < c → 2 * Cnt.term (Cnt.cntTo og og.length (k : Int)) (Cnt.cntTo (Cnt.ksE og (ends l)) (ends l).length (k : Int)) (Cnt.cntTo (Cnt.ksF og (ends l) (F.map zN)) (F.map zN).length (k : Int)) =
     ((2 + -(((List.range n).countP fun v => Rot.cv og v == k : Nat) : Int)) + ((List.range l.length).countP fun e => ch og l (2 * e) == k : Nat)) + (-((F.countP fun L => ch og l (L.headD 0) == k : Nat) : Int) + -(((List.range n).countP fun v => (gl r v).isEmpty && (Rot.cv og v == k) : Nat) : Int)) := fun k hk => by
   rw [h.ni k, h.mi hm k, h.fi hm hF k, h.one hm hF hk rfl rfl rfl rfl]
   omega
 rw [sum_congr hone, sum_add, sum_add, sum_add, sum_add]
 have neg : ∀ (f : Nat → Int), ((List.range c).map fun k => -(f k)).sum = -((List.range c).map f).sum := fun f => by
   have := sum_add c (fun k => -(f k)) f
   rw [sum_congr (f := fun k => -(f k) + f k) (g := fun _ => 0) (fun k _ => by omega), sum_zero] at this
   omega
 rw [neg, neg, neg]
 have s1 := sum_count c (fun v => Rot.cv og v) (List.range n) (fun v hv => (h.cv (List.mem_range.1 hv)).2)
 have s2 := sum_count c (fun e => ch og l (2 * e)) (List.range l.length) (fun e he => h.lt hm (by rw [List.mem_range] at he; omega))
 have s3 := sum_count c (fun L : List Nat => ch og l (L.headD 0)) F (fun L hL => by
   have hr := hF.dec.ring L hL
   have hx : L.headD 0 ∈ L := by
     cases L with
     | nil => exact absurd rfl hr.1
     | cons a t => simp
   have := hF.perm.mem_iff.1 (List.mem_flatten.2 ⟨L, hL, hx⟩)
   rw [List.mem_range] at this
   exact h.lt hm this)
 have s4 : ((List.range c).map fun k => (((List.range n).countP fun v => (gl r v).isEmpty && (Rot.cv og v == k) : Nat) : Int)).sum = (lone r : Int) := by
   have := sum_count c (fun v => Rot.cv og v) ((List.range n).filter fun v => (gl r v).isEmpty) (fun v hv => (h.cv (List.mem_range.1 (List.mem_filter.1 hv).1)).2)
   rw [← List.countP_eq_length_filter, ← lone_count hm] at this
   rw [← this]
   refine sum_congr fun k _ => ?_
   rw [List.countP_filter]
   congr 1
   refine List.countP_congr fun v _ => ?_
   rw [Bool.and_comm]
 have s5 : ((List.range c).map fun _ => (2 : Int)).sum = 2 * (c : Int) := by
   have : ∀ q : Nat, ((List.range q).map fun _ => (2 : Int)).sum = 2 * (q : Int) := fun q => by
     induction q with
     | zero => rfl
     | succ q ih => rw [List.range_succ, List.map_append, List.sum_append, ih]; simp; omega
   exact this c
 rw [List.length_range] at s1 s2
 rw [s1, s2, s3, s4, s5]
 omega
end
end Go.Proofs.Ytmikcfddipldnaa.Rot
namespace Go.Proofs.Ytmikcfddipldnaa.GAll
open Go.RowKit Go.Proofs.YtmikcfddipldnaaW.PrintWords Go.Proofs.YtmikcfddipldnaaW.PrintLast Go.Proofs.YtmikcfddipldnaaW.PrintMore
attribute [local go_sem] max2_int min2_int max_two min_two max_three min_three max_four min_four   -- for this text's walks alone
set_option linter.unusedVariables false
set_option linter.unusedSimpArgs false
mutual
def tangramref05_Isolated.l0 : Nat → List Bool → Int → Int → List (S56) → Option (Int × Int)
 | 0, _, _, _, _ => none
 | k + 1, x4, x5, x183000, x183001 => if x5 < (x183001.length : Int) then (if 0 ≤ x5 then (if 0 ≤ ((rd_T56 x183001 x5).f0) then (if ((rd_T56 x183001 x5).f0) < (x4.length : Int) then (if 0 ≤ ((rd_T56 x183001 x5).f1) then (if ((rd_T56 x183001 x5).f1) < (x4.length : Int) then (tangramref05_Isolated.l0 k ((x4.set (((rd_T56 x183001 x5).f0) : Int).toNat true).set (((rd_T56 x183001 x5).f1) : Int).toNat true) (wrap64 (x5 + 1)) x183000 x183001) else (none)) else (none)) else (none)) else (none)) else (none)) else (tangramref05_Isolated.l1 k x4 0 0 x183000 x183001)
def tangramref05_Isolated.l1 : Nat → List Bool → Int → Int → Int → List (S56) → Option (Int × Int)
 | 0, _, _, _, _, _ => none
 | k + 1, x4, x6, x7, x183000, x183001 => if x7 < x183000 then (if 0 ≤ x7 then (if x7 < (x4.length : Int) then (if rdOf false x4 x7 = true then (tangramref05_Isolated.l1 k x4 x6 (wrap64 (x7 + 1)) x183000 x183001) else (tangramref05_Isolated.l1 k x4 (wrap64 (x6 + 1)) (wrap64 (x7 + 1)) x183000 x183001)) else (none)) else (none)) else (some (x6, 0))
end
def tangramref05_Isolated.f (k : Nat) (a0_0 : Int) (l0_1 : List (S56)) : Option (Int × Int) := (tangramref03_Valid.f k a0_0 l0_1).bind fun t183 => (if t183 = true then (if 0 ≤ a0_0 then (if (a0_0 : Int).toNat ≤ 281474976710656 then (tangramref05_Isolated.l0 k (List.replicate (a0_0 : Int).toNat false) 0 a0_0 l0_1) else (none)) else (none)) else (some (0, 1)))
theorem tangramref05_Isolated.mono_l : ∀ k, (∀ y0 y1 y2 y3, LeO (tangramref05_Isolated.l0 k y0 y1 y2 y3) (tangramref05_Isolated.l0 (k + 1) y0 y1 y2 y3)) ∧ (∀ y0 y1 y2 y3 y4, LeO (tangramref05_Isolated.l1 k y0 y1 y2 y3 y4) (tangramref05_Isolated.l1 (k + 1) y0 y1 y2 y3 y4))
 | 0 => ⟨fun _ _ _ _ r h => by simp [tangramref05_Isolated.l0] at h, fun _ _ _ _ _ r h => by simp [tangramref05_Isolated.l1] at h⟩
 | k + 1 => by
   obtain ⟨ih0, ih1⟩ := tangramref05_Isolated.mono_l k
   refine ⟨?_, ?_⟩
   · intro y0 y1 y2 y3
     unfold tangramref05_Isolated.l0
     repeat' first
     | (with_reducible exact ih0 _ _ _ _)
     | (with_reducible exact ih1 _ _ _ _ _)
     | (with_reducible exact tangramref03_Valid.mono _ _ _)
     | (with_reducible exact LeO.refl _)
     | (with_reducible exact LeO.none _)
     | (with_reducible refine LeO.ite ?_ ?_)
     | (with_reducible refine LeO.bind ?_ (fun _ => ?_))
     | exact ih0 _ _ _ _
     | exact ih1 _ _ _ _ _
     | exact tangramref03_Valid.mono _ _ _
     | exact LeO.none _
     | refine LeO.ite ?_ ?_
     | refine LeO.bind ?_ (fun _ => ?_)
   · intro y0 y1 y2 y3 y4
     unfold tangramref05_Isolated.l1
     repeat' first
     | (with_reducible exact ih0 _ _ _ _)
     | (with_reducible exact ih1 _ _ _ _ _)
     | (with_reducible exact tangramref03_Valid.mono _ _ _)
     | (with_reducible exact LeO.refl _)
     | (with_reducible exact LeO.none _)
     | (with_reducible refine LeO.ite ?_ ?_)
     | (with_reducible refine LeO.bind ?_ (fun _ => ?_))
     | exact ih0 _ _ _ _
     | exact ih1 _ _ _ _ _
     | exact tangramref03_Valid.mono _ _ _
     | exact LeO.none _
     | refine LeO.ite ?_ ?_
     | refine LeO.bind ?_ (fun _ => ?_)
theorem tangramref05_Isolated.mono : ∀ a0 a1 k, LeO (tangramref05_Isolated.f k a0 a1) (tangramref05_Isolated.f (k + 1) a0 a1) := by
 intro a0 a1 k
 obtain ⟨ih0, ih1⟩ := tangramref05_Isolated.mono_l k
 unfold tangramref05_Isolated.f
 repeat' first
     | (with_reducible exact ih0 _ _ _ _)
     | (with_reducible exact ih1 _ _ _ _ _)
     | (with_reducible exact tangramref03_Valid.mono _ _ _)
     | (with_reducible exact LeO.refl _)
     | (with_reducible exact LeO.none _)
     | (with_reducible refine LeO.ite ?_ ?_)
     | (with_reducible refine LeO.bind ?_ (fun _ => ?_))
     | exact ih0 _ _ _ _
     | exact ih1 _ _ _ _ _
     | exact tangramref03_Valid.mono _ _ _
     | exact LeO.none _
     | refine LeO.ite ?_ ?_
     | refine LeO.bind ?_ (fun _ => ?_)
end Go.Proofs.Ytmikcfddipldnaa.GAll
namespace Go.Proofs.Ytmikcfddipldnaa.GAll
open Go.RowKit Go.Proofs.YtmikcfddipldnaaW.PrintWords Go.Proofs.YtmikcfddipldnaaW.PrintLast Go.Proofs.YtmikcfddipldnaaW.PrintMore
attribute [local go_sem] max2_int min2_int max_two min_two max_three min_three max_four min_four   -- for this text's walks alone
set_option linter.unusedVariables false
set_option linter.unusedSimpArgs false
def tangramref12_Genus.f (k : Nat) (a0_0 : Int) (l0_1 : List (S56)) (l1 : List (List Int)) : Option (Int × Int) := (tangramref12_Of.f k a0_0 l0_1 l1).bind fun bt193 => (if bt193.2 = 0 then ((tangramref05_Of.f k a0_0 l0_1).bind fun bt197 => ((tangramref05_Isolated.f k a0_0 l0_1).bind fun bt202 => (some (wrap64 (Int.tdiv (wrap64 ((wrap64 ((wrap64 ((wrap64 ((wrap64 (2 * bt197.2.1)) - bt202.1)) - a0_0)) + (l0_1.length : Int))) - (bt193.1.length : Int))) 2), 0)))) else (some (0, bt193.2)))
theorem tangramref12_Genus.mono : ∀ a0 a1 a2 k, LeO (tangramref12_Genus.f k a0 a1 a2) (tangramref12_Genus.f (k + 1) a0 a1 a2) := by
 intro a0 a1 a2 k
 unfold tangramref12_Genus.f
 repeat' first
     | (with_reducible exact tangramref05_Isolated.mono _ _ _)
     | (with_reducible exact tangramref05_Of.mono _ _ _)
     | (with_reducible exact tangramref12_Of.mono _ _ _ _)
     | (with_reducible exact LeO.refl _)
     | (with_reducible exact LeO.none _)
     | (with_reducible refine LeO.ite ?_ ?_)
     | (with_reducible refine LeO.bind ?_ (fun _ => ?_))
     | exact tangramref05_Isolated.mono _ _ _
     | exact tangramref05_Of.mono _ _ _
     | exact tangramref12_Of.mono _ _ _ _
     | exact LeO.none _
     | refine LeO.ite ?_ ?_
     | refine LeO.bind ?_ (fun _ => ?_)
end Go.Proofs.Ytmikcfddipldnaa.GAll
namespace Go.Proofs.Ytmikcfddipldnaa.GAll
open Go.RowKit Go.Proofs.YtmikcfddipldnaaW.PrintWords Go.Proofs.YtmikcfddipldnaaW.PrintLast Go.Proofs.YtmikcfddipldnaaW.PrintMore
attribute [local go_sem] max2_int min2_int max_two min_two max_three min_three max_four min_four   -- for this text's walks alone
set_option linter.unusedVariables false
set_option linter.unusedSimpArgs false
def tangramref12_Flat.f (k : Nat) (a0_0 : Int) (l0_1 : List (S56)) (l1 : List (List Int)) : Option (Bool) := (tangramref12_Genus.f k a0_0 l0_1 l1).bind fun bt205 => (if bt205.2 = 0 then (some (bt205.1 == 0)) else (some false))
theorem tangramref12_Flat.mono : ∀ a0 a1 a2 k, LeO (tangramref12_Flat.f k a0 a1 a2) (tangramref12_Flat.f (k + 1) a0 a1 a2) := by
 intro a0 a1 a2 k
 unfold tangramref12_Flat.f
 repeat' first
     | (with_reducible exact tangramref12_Genus.mono _ _ _ _)
     | (with_reducible exact LeO.refl _)
     | (with_reducible exact LeO.none _)
     | (with_reducible refine LeO.ite ?_ ?_)
     | (with_reducible refine LeO.bind ?_ (fun _ => ?_))
     | exact tangramref12_Genus.mono _ _ _ _
     | exact LeO.none _
     | refine LeO.ite ?_ ?_
     | refine LeO.bind ?_ (fun _ => ?_)
end Go.Proofs.Ytmikcfddipldnaa.GAll
