/- DERIVED. Texts of this seat, one behind the other: lemmas and walks that the statement FacesForest needs. No condition. -/
import Derived.Test.YtmikcfddipldnaaCFacesForestd
import Derived.Test.YtmikcfddipldnaaCFacesForestc
import Derived.Test.YtmikcfddipldnaaCFacesForestb
import Derived.SizedLaws
import Derived.ChangeSlices
import Derived.ProofKit
import Derived.OpenShut
import Derived.ChangeOld
import Derived.Deep.Slices
namespace Go.Proofs.Ytmikcfddipldnaa.GAll
open Go.RowKit Go.Proofs.YtmikcfddipldnaaW.PrintWords Go.Proofs.YtmikcfddipldnaaW.PrintLast Go.Proofs.YtmikcfddipldnaaW.PrintMore
attribute [local go_sem] max2_int min2_int max_two min_two max_three min_three max_four min_four   -- for this text's walks alone
set_option linter.unusedVariables false
set_option linter.unusedSimpArgs false
def simple_Degrees.l0 : Nat → List Int → List (S56) → Int → Int → Option (List Int × Int)
 | 0, _, _, _, _ => none
 | k + 1, x4, x14, x15, x16 => if x16 < x15 then (if 0 ≤ x16 then (if x16 < (x14.length : Int) then (if 0 ≤ ((rd_T56 x14 x16).f0) then (if ((rd_T56 x14 x16).f0) < (x4.length : Int) then ((some (x4.set (((rd_T56 x14 x16).f0) : Int).toNat (wrap64 ((rd x4 ((rd_T56 x14 x16).f0)) + 1)) : List Int)).bind fun y109 => (if 0 ≤ ((rd_T56 x14 x16).f1) then (if ((rd_T56 x14 x16).f1) < (x4.length : Int) then (simple_Degrees.l0 k (y109.set (((rd_T56 x14 x16).f1) : Int).toNat (wrap64 ((rd y109 ((rd_T56 x14 x16).f1)) + 1))) x14 x15 (wrap64 (x16 + 1))) else (none)) else (none))) else (none)) else (none)) else (none)) else (none)) else (some (x4, 0))
def simple_Degrees.f (k : Nat) (a0_0 : Int) (l0_1 : List (S56)) : Option (List Int × Int) := (simple_Valid.f k a0_0 l0_1).bind fun t102 => (if t102 = true then (if 0 ≤ a0_0 then (if (a0_0 : Int).toNat ≤ 35184372088832 then (simple_Degrees.l0 k (List.replicate (a0_0 : Int).toNat 0) l0_1 (l0_1.length : Int) 0) else (none)) else (none)) else (some (([] : List Int), 1)))
theorem simple_Degrees.mono_l : ∀ k, (∀ y0 y1 y2 y3, LeO (simple_Degrees.l0 k y0 y1 y2 y3) (simple_Degrees.l0 (k + 1) y0 y1 y2 y3))
 | 0 => fun _ _ _ _ r h => by simp [simple_Degrees.l0] at h
 | k + 1 => by
   have ih0 := simple_Degrees.mono_l k
   · intro y0 y1 y2 y3
     unfold simple_Degrees.l0
     repeat' first
     | (with_reducible exact ih0 _ _ _ _)
     | (with_reducible exact simple_Valid.mono _ _ _)
     | (with_reducible exact LeO.refl _)
     | (with_reducible exact LeO.none _)
     | (with_reducible refine LeO.ite ?_ ?_)
     | (with_reducible refine LeO.bind ?_ (fun _ => ?_))
     | exact ih0 _ _ _ _
     | exact simple_Valid.mono _ _ _
     | exact LeO.none _
     | refine LeO.ite ?_ ?_
     | refine LeO.bind ?_ (fun _ => ?_)
theorem simple_Degrees.mono : ∀ a0 a1 k, LeO (simple_Degrees.f k a0 a1) (simple_Degrees.f (k + 1) a0 a1) := by
 intro a0 a1 k
 have ih0 := simple_Degrees.mono_l k
 unfold simple_Degrees.f
 repeat' first
     | (with_reducible exact ih0 _ _ _ _)
     | (with_reducible exact simple_Valid.mono _ _ _)
     | (with_reducible exact LeO.refl _)
     | (with_reducible exact LeO.none _)
     | (with_reducible refine LeO.ite ?_ ?_)
     | (with_reducible refine LeO.bind ?_ (fun _ => ?_))
     | exact ih0 _ _ _ _
     | exact simple_Valid.mono _ _ _
     | exact LeO.none _
     | refine LeO.ite ?_ ?_
     | refine LeO.bind ?_ (fun _ => ?_)
set_option maxHeartbeats 8000000 in
set_option maxRecDepth 100000 in
theorem simple_Degrees.calls (k : Nat) (a0_0 : Int) (A0_1 : Option Addr) (c0_1 : Nat) (l0_1 : List (S56)) (r1 : List Int) (r2 : Int) (w : World) (hr0_1 : Kd.C k56 w A0_1 l0_1.length l0_1) (hc0_1 : l0_1.length ≤ c0_1) (h : simple_Degrees.f k a0_0 l0_1 = some (r1, r2)) :
   Calls Try.prog 39 #[.agg #[.int .i64 a0_0, .slice A0_1 l0_1.length c0_1]] w fun e w' => ∃ v0_ : Value, e = .returned (.tuple #[v0_, .int .i64 r2]) ∧ Kd.R (Kd.int .i64) 3 w' w.heap.size (fun _ => True) v0_ r1 ∧ Below w.heap.size w w' := by
 have hu24 := Try.underlying24
 have hu56 := Try.underlying56
 have HR0_1 := Aside0.mk hr0_1
 have HC0_1 := Aside0.mk hc0_1
 clear hr0_1 hc0_1
 have HB := Aside0.mk (Below.refl w.heap.size w)
 have H : ((simple_Valid.f k a0_0 l0_1).bind fun t102 => (if t102 = true then (if 0 ≤ a0_0 then (if (a0_0 : Int).toNat ≤ 35184372088832 then (simple_Degrees.l0 k (List.replicate (a0_0 : Int).toNat 0) l0_1 (l0_1.length : Int) 0) else (none)) else (none)) else (some (([] : List Int), 1)))) = some (r1, r2) := h
 clear h
 replace H := Option.bind_eq_some_iff.mp H
 obtain ⟨t102, A20, H⟩ := H
 replace H : (if t102 = true then (if 0 ≤ a0_0 then (if (a0_0 : Int).toNat ≤ 35184372088832 then (simple_Degrees.l0 k (List.replicate (a0_0 : Int).toNat 0) l0_1 (l0_1.length : Int) 0) else (none)) else (none)) else (some (([] : List Int), 1))) = some (r1, r2) := H
 have A2 := Aside0.mk A20
 clear A20
 by_cases c3 : t102 = true
 · subst c3
   have H1 : (if 0 ≤ a0_0 then (if (a0_0 : Int).toNat ≤ 35184372088832 then (simple_Degrees.l0 k (List.replicate (a0_0 : Int).toNat 0) l0_1 (l0_1.length : Int) 0) else (none)) else (none)) = some (r1, r2) := by rw [if_pos rfl] at H; exact H
   clear H
   have H := H1
   clear H1
   by_cases c4 : 0 ≤ a0_0
   · rw [if_pos c4] at H
     have c4b0 := eq_true c4
     have c4b1 : decide (0 ≤ a0_0) = true := decide_eq_true c4
     clear c4
     by_cases c5 : (a0_0 : Int).toNat ≤ 35184372088832
     · rw [if_pos c5] at H
       have c5b0 := eq_true c5
       have c5b1 : decide ((a0_0 : Int).toNat ≤ 35184372088832) = true := decide_eq_true c5
       clear c5
       obtain ⟨y103, hy103⟩ : ∃ y_ : List Int, y_ = (List.replicate (a0_0 : Int).toNat 0) := ⟨_, rfl⟩
       replace H : (simple_Degrees.l0 k y103 l0_1 (l0_1.length : Int) 0) = some (r1, r2) := by first | (rw [hy103]; with_reducible exact H) | (have H2_ := (Option.bind_some _ _).symm.trans H; rw [hy103]; with_reducible exact H2_) | (have H2_ := (Option.bind_some _ _).symm.trans H; with_reducible exact H2_) | with_reducible exact H | (rw [hy103]; exact H) | exact H
       have Ny103 := Aside0.mk hy103
       clear hy103
       have H' := Aside0.mk H
       clear H
       go_enter Try.func39, Try.ntmps39
       go_wp2_with (first | ((with_reducible refine gate_dst (N := 1) rfl ?_); refine box_event ?hg (N := 1) ?hd (cs := #[.int .i64 a0_0, .slice A0_1 l0_1.length c0_1]) (t := 24) ?hr ?_; (case hd => rfl); (case hg => rfl); (case hr => first | (go_simp; done) | (go_simp; rfl)); intro gb101 hg w6 hbox hb; have n0_ := Aside0.mk (below_step (by repeat (first | (with_reducible first | exact HB.out | apply below_alloc | apply pw_below_drewN | apply below_drew1) | exact HB.out)) hb); have n1_ := Aside0.mk (hbox); have n2_ := Aside0.mk ((by rw [hg]; exact (below_size (by repeat (first | (with_reducible first | exact HB.out | apply below_alloc | apply pw_below_drewN | apply below_drew1) | exact HB.out))) : w.heap.size ≤ gb101)); have n3_ := Aside0.mk ((by rw [hg]; exact (below_size (by repeat (first | (with_reducible first | exact HB.out | apply below_alloc | apply pw_below_drewN | apply below_drew1) | exact HB.out))) : w.heap.size ≤ gb101)); clear HB; have HB := n0_; have BK101 := n1_; have GW101 := n2_; have GE101 := n3_; clear n0_ n1_ n2_ n3_; clear hb hbox hg; have hcz7_0 : w6.cell? ⟨gb101, 0, none⟩ = some (.int .i64 a0_0) := (blk_cell BK101.out 0).trans rfl; have hcz7_1 : w6.cell? ⟨gb101, 1, none⟩ = some (.slice A0_1 l0_1.length c0_1) := (blk_cell BK101.out 1).trans rfl; have hfz7_0 := blk_frozen BK101.out 0; have hfz7_1 := blk_frozen BK101.out 1) | ((with_reducible refine gate_callee (f := 35) rfl ?_); refine goesL_ (some 8) rfl rfl Try.func35 (by kernel_rfl) rfl #[.agg #[.int .i64 a0_0, .slice A0_1 l0_1.length c0_1]] rfl (by (try simp only [List.map_toArray, List.map_cons, List.map_nil]); first | done | rfl | (simp only [List.length_drop, List.length_take]; rfl)) ?_; (with_reducible refine (simple_Valid.calls k a0_0 _ _ l0_1 true _ ?side1 ?side2 A2.out).mono ?_); (case side1 => repeat (first | exact (Kd.C_below HR0_1.out HB.out) | (with_reducible refine Kd.C_alloc ?_ _) | (with_reducible refine Kd.C_drewN ?_ _) | (with_reducible refine Kd.C_drew ?_))); (case side2 => exact HC0_1.out); rintro e w8 ⟨rfl, hb⟩; refine ⟨_, rfl, ?_⟩; have n0_ := Aside0.mk (blk_below (g := gb101) (o := .cells #[.int .i64 a0_0, .slice A0_1 l0_1.length c0_1] 24 (0, 0)) (by (with_reducible repeat (first | refine blk_drewN ?_ _ | refine blk_drew ?_ | refine blk_alloc ?_ _)); exact BK101.out) hb); have n1_ := Aside0.mk (below_step (by repeat (first | (with_reducible first | exact HB.out | apply below_alloc | apply pw_below_drewN | apply below_drew1 | refine below_set ?_ GE101.out) | exact HB.out)) hb); clear BK101; clear HB; have BK101 := n0_; have HB := n1_; clear n0_ n1_; (try clear hb); (try clear hb2); (try clear hk); (try clear hi); have hcz9_0 : w8.cell? ⟨gb101, 0, none⟩ = some (.int .i64 a0_0) := (blk_cell BK101.out 0).trans rfl; have hcz9_1 : w8.cell? ⟨gb101, 1, none⟩ = some (.slice A0_1 l0_1.length c0_1) := (blk_cell BK101.out 1).trans rfl; have hfz9_0 := blk_frozen BK101.out 0; have hfz9_1 := blk_frozen BK101.out 1) | ((with_reducible refine gate_dst (N := 12) rfl ?_); refine Kd.R_make (Kd.int .i64) _ 3 rfl (N := 12) rfl 36 _ _ rfl a0_0 rfl rfl Try.underlying36 (.int .i64 0) 8 info3 rfl (by decide) (by omega) 0 (ok := fun _ => True) (okp := fun _ => True) rfl (fun _ hk => hk) trivial (of_decide_eq_true (by first | (with_reducible assumption) | assumption)) (Nat.le_trans (Nat.mul_le_mul_right _ (of_decide_eq_true (by first | (with_reducible assumption) | assumption) : a0_0.toNat ≤ 35184372088832)) (by omega)) (Below.refl _ _) (Nat.le_refl _) ?_; intro v104 w10 ho11 hb hg_ hnew_; clear hg_ hnew_; (first | rw [← Ny103.out] at ho11 | (simp only [Int.reduceToNat] at ho11; rw [← Ny103.out] at ho11)); have n0_ := Aside0.mk (Kd.R_lower ho11 (below_size (by repeat (first | (with_reducible first | exact HB.out | apply below_alloc | apply pw_below_drewN | apply below_drew1 | refine below_set ?_ GE101.out) | exact HB.out)))); have n1_ := Aside0.mk (blk_below (g := gb101) (o := .cells #[.int .i64 a0_0, .slice A0_1 l0_1.length c0_1] 24 (0, 0)) (by (with_reducible repeat (first | refine blk_drewN ?_ _ | refine blk_drew ?_ | refine blk_alloc ?_ _)); exact BK101.out) hb); have n2_ := Aside0.mk (below_step (by repeat (first | (with_reducible first | exact HB.out | apply below_alloc | apply pw_below_drewN | apply below_drew1 | refine below_set ?_ GE101.out) | exact HB.out)) hb); clear BK101; clear HB; have HO105 := n0_; have BK101 := n1_; have HB := n2_; clear n0_ n1_ n2_; clear hb ho11; have hcz12_0 : w10.cell? ⟨gb101, 0, none⟩ = some (.int .i64 a0_0) := (blk_cell BK101.out 0).trans rfl; have hcz12_1 : w10.cell? ⟨gb101, 1, none⟩ = some (.slice A0_1 l0_1.length c0_1) := (blk_cell BK101.out 1).trans rfl; have hfz12_0 := blk_frozen BK101.out 0; have hfz12_1 := blk_frozen BK101.out 1))
       go_loopg [16] k (fun kq v16 w' => ∃ (x4_1 : List Int) (x16_1 : Int), v16 = .int .i64 x16_1 ∧ Aside0 (simple_Degrees.l0 kq x4_1 l0_1 (l0_1.length : Int) x16_1 = some (r1, r2)) ∧ Aside0 (kq ≤ k) ∧ Aside0 (Kd.R (Kd.int .i64) 3 w' w.heap.size (fun _ => True) v104 x4_1) ∧ Aside0 (w'.heap[gb101]? = some (.cells #[.int .i64 a0_0, (.slice A0_1 l0_1.length c0_1)] 24 (0, 0))) ∧ Aside0 (Below w.heap.size w w'))
       case atStart => exact ⟨(y103), (0), (by first | rfl | (simp; done) | (simp [*]; done)), H', ⟨Nat.le_refl _⟩, ⟨by (with_reducible repeat (first | apply Kd.R_alloc | apply Kd.R_drewN | apply Kd.R_drew)); exact HO105.out⟩, ⟨by (with_reducible repeat (first | refine blk_drewN ?_ _ | refine blk_drew ?_ | refine blk_alloc ?_ _)); exact BK101.out⟩, ⟨by repeat (first | (with_reducible first | exact HB.out | apply below_alloc | apply pw_below_drewN | apply below_drew1 | refine below_set ?_ GE101.out) | exact HB.out)⟩⟩
       case round =>
         clear H'
         try clear p2
         try clear c3
         try clear c4
         try clear c4b0
         try clear c4b1
         try clear c5
         try clear c5b0
         try clear c5b1
         try clear hcz12_0
         try clear hcz12_1
         try clear hcz7_0
         try clear hcz7_1
         try clear hcz9_0
         try clear hcz9_1
         try clear hfz12_0
         try clear hfz12_1
         try clear hfz7_0
         try clear hfz7_1
         try clear hfz9_0
         try clear hfz9_1
         obtain ⟨x4_1, x16_1, rfl, HA, HK1, HO_4, BK101, HB⟩ := hrel
         cases gk with
         | zero => exact absurd HA.out (by simp [simple_Degrees.l0])
         | succ k1 =>
           have H := HA.out
           clear HA
           simp only [simple_Degrees.l0] at H
           by_cases c13 : x16_1 < (l0_1.length : Int)
           · rw [if_pos c13] at H
             have c13b0 : decide (x16_1 < (l0_1.length : Int)) = true := decide_eq_true c13
             clear c13
             by_cases c14 : 0 ≤ x16_1
             · rw [if_pos c14] at H
               have c14b0 : decide (0 ≤ x16_1) = true := decide_eq_true c14
               clear c14
               by_cases c15 : x16_1 < (l0_1.length : Int)
               · rw [if_pos c15] at H
                 have c15b0 : decide (x16_1 < (l0_1.length : Int)) = true := decide_eq_true c15
                 clear c15
                 by_cases c16 : 0 ≤ ((rd_T56 l0_1 x16_1).f0)
                 · rw [if_pos c16] at H
                   have c16b0 : decide (0 ≤ ((rd_T56 l0_1 x16_1).f0)) = true := decide_eq_true c16
                   clear c16
                   by_cases c17 : ((rd_T56 l0_1 x16_1).f0) < (x4_1.length : Int)
                   · rw [if_pos c17] at H
                     have c17b0 : decide (((rd_T56 l0_1 x16_1).f0) < (x4_1.length : Int)) = true := decide_eq_true c17
                     clear c17
                     obtain ⟨y109, hy109⟩ : ∃ y_ : List Int, y_ = (x4_1.set (((rd_T56 l0_1 x16_1).f0) : Int).toNat (wrap64 ((rd x4_1 ((rd_T56 l0_1 x16_1).f0)) + 1))) := ⟨_, rfl⟩
                     replace H : (if 0 ≤ ((rd_T56 l0_1 x16_1).f1) then (if ((rd_T56 l0_1 x16_1).f1) < (x4_1.length : Int) then (simple_Degrees.l0 k1 (y109.set (((rd_T56 l0_1 x16_1).f1) : Int).toNat (wrap64 ((rd y109 ((rd_T56 l0_1 x16_1).f1)) + 1))) l0_1 (l0_1.length : Int) (wrap64 (x16_1 + 1))) else (none)) else (none)) = some (r1, r2) := by first | (rw [hy109]; with_reducible exact H) | (have H2_ := (Option.bind_some _ _).symm.trans H; rw [hy109]; with_reducible exact H2_) | (have H2_ := (Option.bind_some _ _).symm.trans H; with_reducible exact H2_) | with_reducible exact H | (rw [hy109]; exact H) | exact H
                     have Ny109 := Aside0.mk hy109
                     clear hy109
                     by_cases c19 : 0 ≤ ((rd_T56 l0_1 x16_1).f1)
                     · rw [if_pos c19] at H
                       have c19b0 : decide (0 ≤ ((rd_T56 l0_1 x16_1).f1)) = true := decide_eq_true c19
                       clear c19
                       by_cases c20 : ((rd_T56 l0_1 x16_1).f1) < (x4_1.length : Int)
                       · rw [if_pos c20] at H
                         have c20b0 : decide (((rd_T56 l0_1 x16_1).f1) < (x4_1.length : Int)) = true := decide_eq_true c20
                         clear c20
                         obtain ⟨y111, hy111⟩ : ∃ y_ : List Int, y_ = (y109.set (((rd_T56 l0_1 x16_1).f1) : Int).toNat (wrap64 ((rd y109 ((rd_T56 l0_1 x16_1).f1)) + 1))) := ⟨_, rfl⟩
                         replace H : (simple_Degrees.l0 k1 y111 l0_1 (l0_1.length : Int) (wrap64 (x16_1 + 1))) = some (r1, r2) := by first | (rw [hy111]; with_reducible exact H) | (have H2_ := (Option.bind_some _ _).symm.trans H; rw [hy111]; with_reducible exact H2_) | (have H2_ := (Option.bind_some _ _).symm.trans H; with_reducible exact H2_) | with_reducible exact H | (rw [hy111]; exact H) | exact H
                         have Ny111 := Aside0.mk hy111
                         clear hy111
                         have H' := Aside0.mk H
                         clear H
                         have p106 : 0 ≤ (x16_1 : Int) := of_decide_eq_true (by first | (with_reducible assumption) | assumption)
                         have q106 : x16_1 < (l0_1.length : Int) := of_decide_eq_true (by first | (with_reducible assumption) | assumption)
                         obtain ⟨ad106, e106, hx106_0, hx106_1⟩ := at_T56 HR0_1.out x16_1 p106 q106
                         cases e106
                         replace hx106_0 := (HB.out.cell (World.block_lt_of_cell? w _ hx106_0)).trans hx106_0
                         replace hx106_1 := (HB.out.cell (World.block_lt_of_cell? w _ hx106_1)).trans hx106_1
                         replace p106 := eq_true p106
                         replace q106 := eq_true q106
                         go_wp2_with (first | ((with_reducible refine gate_dst (N := 6) rfl ?_); refine box_event ?hg (N := 6) ?hd (cs := #[.int .i64 0, .int .i64 0]) (t := 56) ?hr ?_; (case hd => rfl); (case hg => rfl); (case hr => first | (go_simp; done) | (go_simp; rfl)); intro gb107 hg w22 hbox hb; have n0_ := Aside0.mk (Kd.R_below (by (with_reducible repeat (first | apply Kd.R_alloc | apply Kd.R_drewN | apply Kd.R_drew)); exact HO_4.out) hb); have n1_ := Aside0.mk (blk_below (g := gb101) (o := .cells #[.int .i64 a0_0, .slice (some ad106) l0_1.length c0_1] 24 (0, 0)) (by (with_reducible repeat (first | refine blk_drewN ?_ _ | refine blk_drew ?_ | refine blk_alloc ?_ _)); exact BK101.out) hb); have n2_ := Aside0.mk (below_step (by repeat (first | (with_reducible first | exact HB.out | apply below_alloc | apply pw_below_drewN | apply below_drew1 | refine below_set ?_ GE101.out) | exact HB.out)) hb); have n3_ := Aside0.mk (hbox); have n4_ := Aside0.mk ((by rw [hg]; exact (below_size (by repeat (first | (with_reducible first | exact HB.out | apply below_alloc | apply pw_below_drewN | apply below_drew1 | refine below_set ?_ GE101.out) | exact HB.out))) : w.heap.size ≤ gb107)); have n5_ := Aside0.mk ((by rw [hg]; exact (below_size (by repeat (first | (with_reducible first | exact HB.out | apply below_alloc | apply pw_below_drewN | apply below_drew1 | refine below_set ?_ GE101.out) | exact HB.out))) : w.heap.size ≤ gb107)); have n6_ := Aside0.mk ((by rw [hg]; exact Nat.ne_of_lt (blk_lt (g := gb101) (o := .cells #[.int .i64 a0_0, .slice (some ad106) l0_1.length c0_1] 24 (0, 0)) (by (with_reducible repeat (first | refine blk_drewN ?_ _ | refine blk_drew ?_ | refine blk_alloc ?_ _)); exact BK101.out)) : gb101 ≠ gb107)); have n7_ := Aside0.mk ((by rw [hg]; exact Nat.ne_of_gt (blk_lt (g := gb101) (o := .cells #[.int .i64 a0_0, .slice (some ad106) l0_1.length c0_1] 24 (0, 0)) (by (with_reducible repeat (first | refine blk_drewN ?_ _ | refine blk_drew ?_ | refine blk_alloc ?_ _)); exact BK101.out)) : gb107 ≠ gb101)); clear HO_4; clear BK101; clear HB; have HO_4 := n0_; have BK101 := n1_; have HB := n2_; have BK107 := n3_; have GW107 := n4_; have GE107 := n5_; have NB101_107 := n6_; have NB107_101 := n7_; clear n0_ n1_ n2_ n3_ n4_ n5_ n6_ n7_; clear hb hbox hg; have hnb23 := NB107_101.out; have hnc23 := NB101_107.out; have hcz24_0 : w22.cell? ⟨gb107, 0, none⟩ = some (.int .i64 0) := (blk_cell BK107.out 0).trans rfl; have hcz24_1 : w22.cell? ⟨gb107, 1, none⟩ = some (.int .i64 0) := (blk_cell BK107.out 1).trans rfl; have hfz24_0 := blk_frozen BK107.out 0; have hfz24_1 := blk_frozen BK107.out 1) | ((with_reducible refine gate_store (t := 56) (p := 6) rfl ?_); refine store_event (t := 56) (p := 6) (v := ?vo_w25) (w1 := ((w22.setCell ⟨gb107, 0, none⟩ (.int .i64 ((rd_T56 l0_1 x16_1).f0))).setCell ⟨gb107, 1, none⟩ (.int .i64 ((rd_T56 l0_1 x16_1).f1)))) ?hg ?ho ?hn ?hr ?_; (case ho => rfl); (case hg => rfl); (case hn => rfl); (case hr => first | (go_simp; done) | (go_simp; rfl)); intro w25 hw; have n0_ : Aside0 (Kd.R (Kd.int .i64) 3 w25 w.heap.size (fun _ => True) v104 x4_1) := ⟨(by rw [hw]; exact (by (with_reducible repeat (first | apply Kd.R_alloc | apply Kd.R_drewN | apply Kd.R_drew)); exact Kd.R_mono (Kd.R_far (p := ⟨gb107, 1, none⟩) (Kd.R_far (p := ⟨gb107, 0, none⟩) (Kd.R_types HO_4.out BK107.out (by decide)) (fun _ hk => hk.2) (.int .i64 ((rd_T56 l0_1 x16_1).f0))) (fun _ hk => hk.2) (.int .i64 ((rd_T56 l0_1 x16_1).f1))) (fun _ hk => trivial)))⟩; have n1_ : Aside0 (w25.heap[gb101]? = some (.cells #[.int .i64 a0_0, .slice (some ad106) l0_1.length c0_1] 24 (0, 0))) := ⟨(by rw [hw]; exact (by (with_reducible repeat (first | refine blk_drewN ?_ _ | refine blk_drew ?_ | refine blk_alloc ?_ _)); refine blk_far ?_ NB101_107.out _; (with_reducible repeat (first | refine blk_drewN ?_ _ | refine blk_drew ?_ | refine blk_alloc ?_ _)); refine blk_far ?_ NB101_107.out _; (with_reducible repeat (first | refine blk_drewN ?_ _ | refine blk_drew ?_ | refine blk_alloc ?_ _)); exact BK101.out))⟩; have n2_ : Aside0 (w25.heap[gb107]? = some (.cells #[.int .i64 ((rd_T56 l0_1 x16_1).f0), .int .i64 ((rd_T56 l0_1 x16_1).f1)] 56 (0, 0))) := ⟨(by rw [hw]; exact (by (with_reducible repeat (first | refine blk_drewN ?_ _ | refine blk_drew ?_ | refine blk_alloc ?_ _)); refine blk_put (cs := #[.int .i64 ((rd_T56 l0_1 x16_1).f0), .int .i64 0]) ?_ 1 _ rfl; (with_reducible repeat (first | refine blk_drewN ?_ _ | refine blk_drew ?_ | refine blk_alloc ?_ _)); refine blk_put (cs := #[.int .i64 0, .int .i64 0]) ?_ 0 _ rfl; (with_reducible repeat (first | refine blk_drewN ?_ _ | refine blk_drew ?_ | refine blk_alloc ?_ _)); exact BK107.out))⟩; have n3_ : Aside0 (Below w.heap.size w w25) := ⟨(by rw [hw]; exact (by repeat (first | (with_reducible first | exact HB.out | apply below_alloc | apply pw_below_drewN | apply below_drew1 | refine below_set ?_ GE101.out | refine below_set ?_ GE107.out) | exact HB.out)))⟩; clear hw; clear HO_4; clear BK101; clear BK107; clear HB; have HO_4 := n0_; have BK101 := n1_; have BK107 := n2_; have HB := n3_; clear n0_ n1_ n2_ n3_; have hcz26_0 : w25.cell? ⟨gb107, 0, none⟩ = some (.int .i64 ((rd_T56 l0_1 x16_1).f0)) := (blk_cell BK107.out 0).trans rfl; have hcz26_1 : w25.cell? ⟨gb107, 1, none⟩ = some (.int .i64 ((rd_T56 l0_1 x16_1).f1)) := (blk_cell BK107.out 1).trans rfl; have hfz26_0 := blk_frozen BK107.out 0; have hfz26_1 := blk_frozen BK107.out 1; obtain ⟨Ao27, co27, eo27⟩ := Kd.R_slice HO_4.out; subst eo27; have p108 : 0 ≤ (((rd_T56 l0_1 x16_1).f0) : Int) := of_decide_eq_true (by first | (with_reducible assumption) | assumption); have q108 : ((rd_T56 l0_1 x16_1).f0) < (x4_1.length : Int) := of_decide_eq_true (by first | (with_reducible assumption) | assumption); obtain ⟨ad108, e108, hx108_0⟩ := Kd.at_int (Kd.R_reads' HO_4.out).2.2 ((rd_T56 l0_1 x16_1).f0) p108 q108; cases e108; replace p108 := eq_true p108; replace q108 := eq_true q108; have p18 : 0 ≤ (((rd_T56 l0_1 x16_1).f0) : Int) := of_decide_eq_true (by first | (with_reducible assumption) | assumption); have q18 : (((rd_T56 l0_1 x16_1).f0) : Int) < ((x4_1.length : Int) : Int) := of_decide_eq_true (by first | (with_reducible assumption) | assumption); obtain ⟨go18, co18, eo18, gb18, gl18, cl18, HG18⟩ := Kd.R_form HO_4.out (by omega); (first | cases eo18 | (injection eo18 with ea_ en_ ec_; (first | subst ea_ | (injection ea_ with ea_; subst ea_)); subst ec_; clear en_)); have GB18 := Aside0.mk gb18; have GG18 := Aside0.mk HG18; clear gb18 gl18 HG18; (first | simp only [add_plain] at hx108_0 | skip); obtain ⟨hx18_0, hf18_0⟩ := Kd.R_celln 0 HO_4.out (((rd_T56 l0_1 x16_1).f0) : Int) p18 q18; replace p18 := eq_true p18; replace q18 := eq_true q18; obtain ⟨hy28_, hz28_⟩ := Kd.R_celln 0 HO_4.out (((rd_T56 l0_1 x16_1).f0) : Int) (of_decide_eq_true (by first | (with_reducible assumption) | assumption)) (of_decide_eq_true (by first | (with_reducible assumption) | assumption)); have HP28 := Kd.R_putg HO_4.out (((rd_T56 l0_1 x16_1).f0) : Int) (wrap64 ((rd x4_1 ((rd_T56 l0_1 x16_1).f0)) + 1))) | ((with_reducible refine gate_store (t := 3) (p := 26) rfl ?_); refine store_event (t := 3) (p := 26) (v := ?vo_w29) (w1 := (w25.setCell ⟨go18, (((rd_T56 l0_1 x16_1).f0) : Int).toNat, none⟩ (.int .i64 (wrap64 ((rd x4_1 ((rd_T56 l0_1 x16_1).f0)) + 1))))) ?hg ?ho ?hn ?hr ?_; (case ho => rfl); (case hg => rfl); (case hn => rfl); (case hr => first | (go_simp; done) | (go_simp; rfl)); intro w29 hw; have hg : w25.grownBy w29 (some go18) := (by rw [hw]; exact HP28.2); have hp_ : Kd.R (Kd.int .i64) 3 w29 w.heap.size (fun _ => True) (.slice (some ⟨go18, 0, none⟩) x4_1.length co27) y109 := (by rw [hw, Ny109.out]; exact HP28.1); clear HP28; have n0_ := Aside0.mk (hp_); have n1_ := Aside0.mk (blk_grown (g := gb101) (o := .cells #[.int .i64 a0_0, .slice (some ad106) l0_1.length c0_1] 24 (0, 0)) (by (with_reducible repeat (first | refine blk_drewN ?_ _ | refine blk_drew ?_ | refine blk_alloc ?_ _)); exact BK101.out) hg (Kd.R_ne HO_4.out BK101.out (by decide))); have n2_ := Aside0.mk (blk_grown (g := gb107) (o := .cells #[.int .i64 ((rd_T56 l0_1 x16_1).f0), .int .i64 ((rd_T56 l0_1 x16_1).f1)] 56 (0, 0)) (by (with_reducible repeat (first | refine blk_drewN ?_ _ | refine blk_drew ?_ | refine blk_alloc ?_ _)); exact BK107.out) hg (Kd.R_ne HO_4.out BK107.out (by decide))); have n3_ := Aside0.mk ((by rw [hw]; exact below_set (HB.out) GB18.out : Below w.heap.size w w29)); clear HO_4; clear BK101; clear BK107; clear HB; have HO_4 := n0_; have BK101 := n1_; have BK107 := n2_; have HB := n3_; clear n0_ n1_ n2_ n3_; clear hg hw hp_; have hcz30_0 : w29.cell? ⟨gb107, 0, none⟩ = some (.int .i64 ((rd_T56 l0_1 x16_1).f0)) := (blk_cell BK107.out 0).trans rfl; have hcz30_1 : w29.cell? ⟨gb107, 1, none⟩ = some (.int .i64 ((rd_T56 l0_1 x16_1).f1)) := (blk_cell BK107.out 1).trans rfl; have hfz30_0 := blk_frozen BK107.out 0; have hfz30_1 := blk_frozen BK107.out 1; have p110 : 0 ≤ (((rd_T56 l0_1 x16_1).f1) : Int) := of_decide_eq_true (by first | (with_reducible assumption) | assumption); have q110 : ((rd_T56 l0_1 x16_1).f1) < (y109.length : Int) := (by have h_ : (((rd_T56 l0_1 x16_1).f1) : Int) < ((x4_1.length : Int) : Int) := of_decide_eq_true (by first | (with_reducible assumption) | assumption); first | (have e_ := (Kd.R_reads' HO_4.out).1; omega) | simpa only [Ny109.out, List.length_set] using h_); have ql110 : ((((rd_T56 l0_1 x16_1).f1) : Int) < ((x4_1.length : Int) : Int)) = True := eq_true (of_decide_eq_true (by first | (with_reducible assumption) | assumption)); obtain ⟨ad110, e110, hx110_0⟩ := Kd.at_int (Kd.R_reads' HO_4.out).2.2 ((rd_T56 l0_1 x16_1).f1) p110 q110; obtain rfl : (⟨go18, 0, none⟩ : Addr) = ad110 := (by injection e110); (first | simp only [add_plain] at hx110_0 | simp only [add_at] at hx110_0 | simp only [Addr.add, Nat.zero_add] at hx110_0 | skip); replace p110 := eq_true p110; replace q110 := eq_true q110; have p21 : 0 ≤ (((rd_T56 l0_1 x16_1).f1) : Int) := of_decide_eq_true (by first | (with_reducible assumption) | assumption); have q21 : (((rd_T56 l0_1 x16_1).f1) : Int) < ((x4_1.length : Int) : Int) := of_decide_eq_true (by first | (with_reducible assumption) | assumption); obtain ⟨hx21_0, hf21_0⟩ := Kd.R_celln 0 HO_4.out (((rd_T56 l0_1 x16_1).f1) : Int) p21 q21; replace p21 := eq_true p21; replace q21 := eq_true q21; obtain ⟨hy31_, hz31_⟩ := Kd.R_celln 0 HO_4.out (((rd_T56 l0_1 x16_1).f1) : Int) (of_decide_eq_true (by first | (with_reducible assumption) | assumption)) (of_decide_eq_true (by first | (with_reducible assumption) | assumption)); have HP31 := Kd.R_putg HO_4.out (((rd_T56 l0_1 x16_1).f1) : Int) (wrap64 ((rd y109 ((rd_T56 l0_1 x16_1).f1)) + 1))) | ((with_reducible refine gate_store (t := 3) (p := 33) rfl ?_); refine store_event (t := 3) (p := 33) (v := ?vo_w32) (w1 := (w29.setCell ⟨go18, (((rd_T56 l0_1 x16_1).f1) : Int).toNat, none⟩ (.int .i64 (wrap64 ((rd y109 ((rd_T56 l0_1 x16_1).f1)) + 1))))) ?hg ?ho ?hn ?hr ?_; (case ho => rfl); (case hg => rfl); (case hn => rfl); (case hr => first | (go_simp; done) | (go_simp; rfl)); intro w32 hw; have hg : w29.grownBy w32 (some go18) := (by rw [hw]; exact HP31.2); have hp_ : Kd.R (Kd.int .i64) 3 w32 w.heap.size (fun _ => True) (.slice (some ⟨go18, 0, none⟩) x4_1.length co27) y111 := (by rw [hw, Ny111.out]; exact HP31.1); clear HP31; have n0_ := Aside0.mk (hp_); have n1_ := Aside0.mk (blk_grown (g := gb101) (o := .cells #[.int .i64 a0_0, .slice (some ad106) l0_1.length c0_1] 24 (0, 0)) (by (with_reducible repeat (first | refine blk_drewN ?_ _ | refine blk_drew ?_ | refine blk_alloc ?_ _)); exact BK101.out) hg (Kd.R_ne HO_4.out BK101.out (by decide))); have n2_ := Aside0.mk (blk_grown (g := gb107) (o := .cells #[.int .i64 ((rd_T56 l0_1 x16_1).f0), .int .i64 ((rd_T56 l0_1 x16_1).f1)] 56 (0, 0)) (by (with_reducible repeat (first | refine blk_drewN ?_ _ | refine blk_drew ?_ | refine blk_alloc ?_ _)); exact BK107.out) hg (Kd.R_ne HO_4.out BK107.out (by decide))); have n3_ := Aside0.mk ((by rw [hw]; exact below_set (HB.out) GB18.out : Below w.heap.size w w32)); clear HO_4; clear BK101; clear BK107; clear HB; have HO_4 := n0_; have BK101 := n1_; have BK107 := n2_; have HB := n3_; clear n0_ n1_ n2_ n3_; clear hg hw hp_))
                         go_roundg k1
                         case measure => have := HK1.out; omega
                         case rel => exact ⟨(y111), (wrap64 (x16_1 + 1)), (by first | rfl | (simp; done) | (simp [*]; done)), H', ⟨by have := HK1.out; omega⟩, ⟨by (with_reducible repeat (first | apply Kd.R_alloc | apply Kd.R_drewN | apply Kd.R_drew)); exact HO_4.out⟩, ⟨by (with_reducible repeat (first | refine blk_drewN ?_ _ | refine blk_drew ?_ | refine blk_alloc ?_ _)); exact BK101.out⟩, ⟨by repeat (first | (with_reducible first | exact HB.out | apply below_alloc | apply pw_below_drewN | apply below_drew1 | refine below_set ?_ GE101.out | refine below_set ?_ GE107.out) | exact HB.out)⟩⟩
                       · rw [if_neg c20] at H
                         exact absurd H (by simp)
                     · rw [if_neg c19] at H
                       exact absurd H (by simp)
                   · rw [if_neg c17] at H
                     exact absurd H (by simp)
                 · rw [if_neg c16] at H
                   exact absurd H (by simp)
               · rw [if_neg c15] at H
                 exact absurd H (by simp)
             · rw [if_neg c14] at H
               exact absurd H (by simp)
           · rw [if_neg c13] at H
             have c13b0 : decide (x16_1 < (l0_1.length : Int)) = false := decide_eq_false c13
             clear c13
             simp only [Option.some.injEq, Prod.mk.injEq] at H
             obtain ⟨rfl, rfl⟩ := H
             go_wp2
             go_ret2
             exact ⟨_, by first | rfl | (simp [errW_none, errW_some] <;> rfl) | (simp [*, errW_none, errW_some] <;> rfl), by (with_reducible repeat (first | apply Kd.R_alloc | apply Kd.R_drewN | apply Kd.R_drew)); exact HO_4.out, by repeat (first | (with_reducible first | exact HB.out | apply below_alloc | apply pw_below_drewN | apply below_drew1 | refine below_set ?_ GE101.out) | exact HB.out)⟩
     · rw [if_neg c5] at H
       exact absurd H (by simp)
   · rw [if_neg c4] at H
     exact absurd H (by simp)
 · replace c3 := Bool.eq_false_iff.mpr c3
   subst c3
   have H1 : (some (([] : List Int), 1)) = some (r1, r2) := by rw [if_neg (show ¬ (false = true) by decide)] at H; exact H
   clear H
   have H := H1
   clear H1
   simp only [Option.some.injEq, Prod.mk.injEq] at H
   obtain ⟨rfl, rfl⟩ := H
   go_enter Try.func39, Try.ntmps39
   go_wp2_with (first | ((with_reducible refine gate_dst (N := 1) rfl ?_); refine box_event ?hg (N := 1) ?hd (cs := #[.int .i64 a0_0, .slice A0_1 l0_1.length c0_1]) (t := 24) ?hr ?_; (case hd => rfl); (case hg => rfl); (case hr => first | (go_simp; done) | (go_simp; rfl)); intro gb101 hg w33 hbox hb; have n0_ := Aside0.mk (below_step (by repeat (first | (with_reducible first | exact HB.out | apply below_alloc | apply pw_below_drewN | apply below_drew1) | exact HB.out)) hb); have n1_ := Aside0.mk (hbox); have n2_ := Aside0.mk ((by rw [hg]; exact (below_size (by repeat (first | (with_reducible first | exact HB.out | apply below_alloc | apply pw_below_drewN | apply below_drew1) | exact HB.out))) : w.heap.size ≤ gb101)); have n3_ := Aside0.mk ((by rw [hg]; exact (below_size (by repeat (first | (with_reducible first | exact HB.out | apply below_alloc | apply pw_below_drewN | apply below_drew1) | exact HB.out))) : w.heap.size ≤ gb101)); clear HB; have HB := n0_; have BK101 := n1_; have GW101 := n2_; have GE101 := n3_; clear n0_ n1_ n2_ n3_; clear hb hbox hg; have hcz34_0 : w33.cell? ⟨gb101, 0, none⟩ = some (.int .i64 a0_0) := (blk_cell BK101.out 0).trans rfl; have hcz34_1 : w33.cell? ⟨gb101, 1, none⟩ = some (.slice A0_1 l0_1.length c0_1) := (blk_cell BK101.out 1).trans rfl; have hfz34_0 := blk_frozen BK101.out 0; have hfz34_1 := blk_frozen BK101.out 1) | ((with_reducible refine gate_callee (f := 35) rfl ?_); refine goesL_ (some 8) rfl rfl Try.func35 (by kernel_rfl) rfl #[.agg #[.int .i64 a0_0, .slice A0_1 l0_1.length c0_1]] rfl (by (try simp only [List.map_toArray, List.map_cons, List.map_nil]); first | done | rfl | (simp only [List.length_drop, List.length_take]; rfl)) ?_; (with_reducible refine (simple_Valid.calls k a0_0 _ _ l0_1 false _ ?side1 ?side2 A2.out).mono ?_); (case side1 => repeat (first | exact (Kd.C_below HR0_1.out HB.out) | (with_reducible refine Kd.C_alloc ?_ _) | (with_reducible refine Kd.C_drewN ?_ _) | (with_reducible refine Kd.C_drew ?_))); (case side2 => exact HC0_1.out); rintro e w35 ⟨rfl, hb⟩; refine ⟨_, rfl, ?_⟩; have n0_ := Aside0.mk (blk_below (g := gb101) (o := .cells #[.int .i64 a0_0, .slice A0_1 l0_1.length c0_1] 24 (0, 0)) (by (with_reducible repeat (first | refine blk_drewN ?_ _ | refine blk_drew ?_ | refine blk_alloc ?_ _)); exact BK101.out) hb); have n1_ := Aside0.mk (below_step (by repeat (first | (with_reducible first | exact HB.out | apply below_alloc | apply pw_below_drewN | apply below_drew1 | refine below_set ?_ GE101.out) | exact HB.out)) hb); clear BK101; clear HB; have BK101 := n0_; have HB := n1_; clear n0_ n1_; (try clear hb); (try clear hb2); (try clear hk); (try clear hi)))
   go_ret2
   exact ⟨_, by first | rfl | (simp [errW_none, errW_some] <;> rfl) | (simp [*, errW_none, errW_some] <;> rfl), by first | exact Kd.R_nil _ _ _ _ _ | exact Kd.N_nil _ _ _ _ _ | exact Kd.V_nil _ _ _ _ _ | exact Kd.Q_nil _ _ _ _ _ | exact Kd.S_nil _ _ _ _ _, by repeat (first | (with_reducible first | exact HB.out | apply below_alloc | apply pw_below_drewN | apply below_drew1 | refine below_set ?_ GE101.out) | exact HB.out)⟩
end Go.Proofs.Ytmikcfddipldnaa.GAll
namespace Go.Proofs.Ytmikcfddipldnaa.GAll
open Go.RowKit Go.Proofs.YtmikcfddipldnaaW.PrintWords Go.Proofs.YtmikcfddipldnaaW.PrintLast Go.Proofs.YtmikcfddipldnaaW.PrintMore
attribute [local go_sem] max2_int min2_int max_two min_two max_three min_three max_four min_four   -- for this text's walks alone
set_option linter.unusedVariables false
set_option linter.unusedSimpArgs false
theorem rot_Check.pairs {w : World} {A : Option Addr} {l : List S56} (h : Kd.C k56 w A l.length l) : Mem.Pairs w A (l.map fun x => (x.f0, x.f1)) := by
 intro i hi
 rw [List.length_map] at hi
 obtain ⟨ad, e, h1, h2⟩ := at_T56 h (i : Int) (by omega) (by omega)
 have e2 : Mem.pe (l.map fun x => (x.f0, x.f1)) i = ((rd_T56 l (i : Int)).f0, (rd_T56 l (i : Int)).f1) := by
   unfold Mem.pe rd_T56
   simp [List.getD_eq_getElem?_getD, hi]
 rw [e2]
 exact ⟨ad, e, h1, h2⟩
def rot_Check.told (n : Int) (l : List S56) (r : List (List Int)) (d : List Int × Int) : Option (Int × Int) :=
 if 0 ≤ n ∧ n ≤ 1048576 ∧ l.length ≤ 4194304 ∧ (d.1.length : Int) = n ∧ d.2 = 0 then some (Rot.rows (Rot.froms (l.map fun x => (x.f0, x.f1))) d.1 0 r (List.replicate (2 * l.length) false)) else none
def rot_Check.f (k : Nat) (a0_0 : Int) (l0_1 : List S56) (l1 : List (List Int)) : Option (Int × Int) := (simple_Valid.f k a0_0 l0_1).bind fun t => if t = true then (if (l1.length : Int) = a0_0 then (simple_Degrees.f k a0_0 l0_1).bind fun d => rot_Check.told a0_0 l0_1 l1 d else some (0, 110)) else some (0, 1)
theorem rot_Check.mono : ∀ a0 a1 a2 k, LeO (rot_Check.f k a0 a1 a2) (rot_Check.f (k + 1) a0 a1 a2) := by
 intro a0 a1 a2 k
 unfold rot_Check.f
 refine LeO.bind (simple_Valid.mono _ _ _) (fun t => ?_)
 refine LeO.ite ?_ (LeO.refl _)
 refine LeO.ite ?_ (LeO.refl _)
 exact LeO.bind (simple_Degrees.mono _ _ _) (fun _ => LeO.refl _)
set_option maxHeartbeats 1000000 in
set_option maxRecDepth 100000 in
theorem rot_Check.calls (k : Nat) (a0_0 : Int) (A0_1 : Option Addr) (c0_1 : Nat) (l0_1 : List (S56)) (A1 : Option Addr) (c1 : Nat) (l1 : List (List Int)) (r1 : Int) (r2 : Int) (w : World) (hr0_1 : Kd.C k56 w A0_1 l0_1.length l0_1) (hc0_1 : l0_1.length ≤ c0_1) (hr1 : Kd.C (Kd.slice 3 (Kd.int .i64)) w A1 l1.length l1) (hc1 : l1.length ≤ c1) (h : rot_Check.f k a0_0 l0_1 l1 = some (r1, r2)) :
   Calls Try.prog 34 #[.agg #[.int .i64 a0_0, .slice A0_1 l0_1.length c0_1], .slice A1 l1.length c1] w fun e w' => e = .returned (.tuple #[.int .i64 r1, .int .i64 r2]) ∧ Below w.heap.size w w' := by
 obtain ⟨t, ht, h⟩ := Option.bind_eq_some_iff.mp h
 have hv : Rot.ValidSays t a0_0 A0_1 l0_1.length c0_1 w := fun W hW => simple_Valid.calls k a0_0 A0_1 c0_1 l0_1 t W (Kd.C_below hr0_1 hW) hc0_1 ht
 cases t with
 | false =>
   rw [if_neg (by decide)] at h
   obtain ⟨rfl, rfl⟩ : 0 = r1 ∧ 1 = r2 := by simpa using h
   exact Rot.checkCall (0, 1) a0_0 A0_1 l0_1.length c0_1 A1 l1.length c1 w (.inr (by decide)) (fun w' hw' => Rot.check_invalid a0_0 A0_1 l0_1.length c0_1 A1 l1.length c1 w' (fun W hW => hv W (hw'.trans (hW.mono hw'.size))))
 | true =>
   rw [if_pos rfl] at h
   by_cases hm : (l1.length : Int) = a0_0
   · rw [if_pos hm] at h
     obtain ⟨d, hd, h⟩ := Option.bind_eq_some_iff.mp h
     unfold rot_Check.told at h
     by_cases hf : 0 ≤ a0_0 ∧ a0_0 ≤ 1048576 ∧ l0_1.length ≤ 4194304 ∧ (d.1.length : Int) = a0_0 ∧ d.2 = 0
     · rw [if_pos hf] at h
       obtain ⟨h0, h1, h2, h3, h4⟩ := hf
       obtain ⟨n, rfl⟩ := Int.eq_ofNat_of_zero_le h0
       obtain ⟨ds, e0⟩ := d
       simp only at h3 h4 h
       subst h4
       have hds : Rot.DegreesSays ds (n : Int) A0_1 l0_1.length c0_1 w := fun W hW => simple_Degrees.calls k n A0_1 c0_1 l0_1 ds 0 W (Kd.C_below hr0_1 hW) hc0_1 hd
       have hlm : (l0_1.map fun x => (x.f0, x.f1)).length = l0_1.length := List.length_map ..
       have hp := rot_Check.pairs hr0_1
       obtain ⟨es, hes⟩ : ∃ es, es = l0_1.map fun x => (x.f0, x.f1) := ⟨_, rfl⟩
       rw [← hes] at h hlm hp
       rw [← hlm] at hv hds h h2 ⊢
       obtain ⟨res, hres⟩ : ∃ res, res = Rot.rows (Rot.froms es) ds 0 l1 (List.replicate (2 * es.length) false) := ⟨_, rfl⟩
       have hz := Rot.rows_zero (Rot.froms es) ds l1 0 (List.replicate (2 * es.length) false)
       rw [← hres] at h hz
       have hres2 : res = (r1, r2) := by simpa using h
       have key := Rot.checkCall res (n : Int) A0_1 es.length c0_1 A1 l1.length c1 w hz (fun w' hw' => by
         rw [hres]
         exact Rot.check_rows n A0_1 c0_1 es A1 c1 l1 ds w' (fun W hW => hv W (hw'.trans (hW.mono hw'.size))) (fun W hW => hds W (hw'.trans (hW.mono hw'.size))) (hp.below hw') h2 (by omega) (Kd.C_below hr1 hw') (by omega) (by omega))
       rw [hres2] at key
       exact key
     · rw [if_neg hf] at h; cases h
   · rw [if_neg hm] at h
     obtain ⟨rfl, rfl⟩ : 0 = r1 ∧ 110 = r2 := by simpa using h
     by_cases hn : 0 ≤ a0_0
     · obtain ⟨n, rfl⟩ := Int.eq_ofNat_of_zero_le hn
       exact Rot.checkCall (0, 110) (n : Int) A0_1 l0_1.length c0_1 A1 l1.length c1 w (.inr (by decide)) (fun w' hw' => Rot.check_length n A0_1 l0_1.length c0_1 A1 l1.length c1 w' (fun W hW => hv W (hw'.trans (hW.mono hw'.size))) (by omega))
     · exact absurd ((ValH.goodB_iff _ _).1 (by simpa [simple_Valid.f] using ht)).1 hn
end Go.Proofs.Ytmikcfddipldnaa.GAll
namespace Go.Proofs.Ytmikcfddipldnaa.Rot
open Go.RowKit Go.Proofs.YtmikcfddipldnaaW.PrintWords Go.Proofs.YtmikcfddipldnaaW.PrintLast Go.Proofs.YtmikcfddipldnaaW.PrintMore Go.Proofs.Ytmikcfddipldnaa.GAll Go.Proofs.Ytmikcfddipldnaa.Mem
set_option linter.unusedVariables false
set_option linter.unusedSimpArgs false
abbrev Ed := PureV.E
def ends (l : List Ed) : List (Int × Int) := l.map fun x => (x.f0, x.f1)
theorem ends_length (l : List Ed) : (ends l).length = l.length := List.length_map ..
def frs (l : List Ed) : List Int := froms (ends l)
theorem frs_length (l : List Ed) : (frs l).length = 2 * l.length := by unfold frs; rw [froms_length, ends_length]
theorem froms_even : ∀ (es : List (Int × Int)) (i : Nat), i < es.length → gi (froms es) (2 * i) = (pe es i).1 ∧ gi (froms es) (2 * i + 1) = (pe es i).2
 | [], i, h => absurd h (by simp)
 | e :: es, 0, h => ⟨rfl, rfl⟩
 | e :: es, i + 1, h => froms_even es i (by simpa using h)
theorem pe_ends {l : List Ed} {i : Nat} (h : i < l.length) : pe (ends l) i = ((PureV.rdE l (i : Nat)).f0, (PureV.rdE l (i : Nat)).f1) := by
 have e : PureV.rdE l (i : Nat) = l[i] := by
   show l.getD ((i : Int).toNat) _ = _
   rw [Int.toNat_natCast, List.getD_eq_getElem?_getD, List.getElem?_eq_getElem h]
   rfl
 rw [e]
 unfold pe ends
 simp [List.getD_eq_getElem?_getD, h]
theorem frs_even {l : List Ed} {i : Nat} (h : i < l.length) : gi (frs l) (2 * i) = (PureV.rdE l (i : Nat)).f0 := by
 have := (froms_even (ends l) i (by rw [ends_length]; exact h)).1
 rw [pe_ends h] at this; exact this
theorem frs_odd {l : List Ed} {i : Nat} (h : i < l.length) : gi (frs l) (2 * i + 1) = (PureV.rdE l (i : Nat)).f1 := by
 have := (froms_even (ends l) i (by rw [ends_length]; exact h)).2
 rw [pe_ends h] at this; exact this
theorem frs_range {n : Int} {l : List Ed} (hg : PureV.Good n l) {h : Nat} (hh : h < 2 * l.length) : 0 ≤ gi (frs l) h ∧ gi (frs l) h < n := by
 have hi : h / 2 < l.length := by omega
 obtain ⟨⟨a, b, c⟩, _⟩ := hg.2.2.2 (h / 2) hi
 rcases Nat.mod_two_eq_zero_or_one h with e | e
 · have e2 : h = 2 * (h / 2) := by omega
   rw [e2, frs_even hi]; omega
 · have e2 : h = 2 * (h / 2) + 1 := by omega
   rw [e2, frs_odd hi]; omega
def cnt (fr : List Int) (m : Nat) (v : Int) : Nat := ((List.range m).filter fun j => gi fr j == v).length
theorem cnt_le (fr : List Int) (m : Nat) (v : Int) : cnt fr m v ≤ m := by
 have := List.length_filter_le (fun j => gi fr j == v) (List.range m)
 rw [List.length_range] at this
 exact this
theorem cnt_succ (fr : List Int) (m : Nat) (v : Int) : cnt fr (m + 1) v = cnt fr m v + if gi fr m = v then 1 else 0 := by
 unfold cnt
 rw [List.range_succ, List.filter_append, List.length_append]
 congr 1
 by_cases h : gi fr m = v
 · rw [if_pos h]; simp [h]
 · rw [if_neg h]; simp [h]
theorem leaving_cnt (fr : List Int) (v : Nat) : (leaving fr v).length = cnt fr fr.length v := by unfold leaving cnt; rw [List.length_map]
theorem cnt_put {fr : List Int} {n m : Nat} {ds : List Int} {x : Int} (hx : gi fr m = x) (h0 : 0 ≤ x) (h1 : x < n) (hl : ds.length = n) (hm : m ≤ 9000000) (h : ∀ v, v < n → gi ds v = (cnt fr m v : Int)) :
   ∀ v, v < n → gi (ds.set x.toNat (wrap64 (rd ds x + 1))) v = (cnt fr (m + 1) v : Int) := by
 intro v hv
 obtain ⟨y, rfl⟩ := Int.eq_ofNat_of_zero_le h0
 have hy : y < n := by omega
 have hc := cnt_le fr m y
 rw [gi_rd, h y hy, IntWalk.wrap64_in _ (by omega), gi_set, cnt_succ, Int.toNat_natCast, hx, hl]
 by_cases e : y = v
 · subst e
   rw [if_pos ⟨rfl, hv⟩, if_pos rfl]; omega
 · rw [if_neg (fun q => e q.1), if_neg (by omega), h v hv]; omega
theorem degrees_loop {n : Nat} {l : List Ed} (hg : PureV.Good (n : Int) l) (d : Nat) : ∀ (i : Nat) (ds : List Int), i + d = l.length → ds.length = n → (∀ v, v < n → gi ds v = (cnt (frs l) (2 * i) v : Int)) →
   ∃ ds', Ev (fun k => simple_Degrees.l0 k ds l (l.length : Int) (i : Int)) (ds', 0) ∧ ds'.length = n ∧ ∀ v, v < n → gi ds' v = (cnt (frs l) (2 * l.length) v : Int) := by
 induction d with
 | zero =>
   intro i ds hi hl hv
   refine ⟨ds, Ev.step (f := fun _ => some (ds, 0)) (fun k => ?_) (Ev.now _), hl, fun v h => ?_⟩
   · simp only [simple_Degrees.l0]
     rw [if_neg (by omega)]
   · rw [hv v h, show i = l.length by omega]
 | succ d ih =>
   intro i ds hi hl hv
   have hll := hg.2.2.1
   obtain ⟨⟨a, b, c⟩, _⟩ := hg.2.2.2 i (by omega)
   have h1 := cnt_put (n := n) (m := 2 * i) (fr := frs l) (ds := ds) (frs_even (l := l) (i := i) (by omega)) a (by omega) hl (by omega) hv
   have h2 := cnt_put (n := n) (fr := frs l) (m := 2 * i + 1) (frs_odd (l := l) (i := i) (by omega)) (by omega) c (by rw [List.length_set]; exact hl) (by omega) h1
   obtain ⟨ds', e1, e2, e3⟩ := ih (i + 1) _ (by omega) (List.length_set.trans (List.length_set.trans hl)) h2
   refine ⟨ds', Ev.step (fun k => ?_) e1, e2, e3⟩
   simp only [simple_Degrees.l0]
   rw [if_pos (by omega), if_pos (show (0 : Int) ≤ (i : Int) by omega), if_pos (show (i : Int) < (l.length : Int) by omega)]
   change (if 0 ≤ (PureV.rdE l (i : Nat)).f0 then _ else _) = _
   rw [if_pos a]
   change (if (PureV.rdE l (i : Nat)).f0 < (ds.length : Int) then _ else _) = _
   rw [if_pos (by omega), Option.bind_some]
   change (if 0 ≤ (PureV.rdE l (i : Nat)).f1 then _ else _) = _
   rw [if_pos (by omega)]
   change (if (PureV.rdE l (i : Nat)).f1 < (ds.length : Int) then _ else _) = _
   rw [if_pos (by omega), PureV.wadd (i := i) (by omega)]
theorem degrees_ev {n : Nat} {l : List Ed} (hg : PureV.Good (n : Int) l) (hv : Ev (fun k => simple_Valid.f k (n : Int) l) true) :
   ∃ ds, Ev (fun k => simple_Degrees.f k (n : Int) l) (ds, 0) ∧ ds.length = n ∧ ∀ v, v < n → gi ds v = ((leaving (frs l) v).length : Int) := by
 obtain ⟨ds, e1, e2, e3⟩ := degrees_loop hg l.length 0 (List.replicate n 0) (by omega) (by simp) (fun v h => by
   unfold gi cnt
   simp [List.getD_eq_getElem?_getD, List.getElem?_replicate, h])
 refine ⟨ds, ?_, e2, fun v h => by rw [e3 v h, leaving_cnt, frs_length]⟩
 unfold simple_Degrees.f
 refine Ev.bind hv ?_
 have := hg.2.1
 refine Ev.congr (fun k => ?_) e1
 rw [if_pos rfl, if_pos (by omega), if_pos (by omega)]
 rfl
theorem check_no {n : Int} {l : List Ed} {r : List (List Int)} (hv : Ev (fun k => simple_Valid.f k n l) false) : Ev (fun k => rot_Check.f k n l r) (0, 1) := by
 unfold rot_Check.f
 refine Ev.bind hv ?_
 exact Ev.congr (fun k => if_neg (by decide)) (Ev.now _)
theorem check_len {n : Int} {l : List Ed} {r : List (List Int)} (hv : Ev (fun k => simple_Valid.f k n l) true) (h : (r.length : Int) ≠ n) : Ev (fun k => rot_Check.f k n l r) (0, 110) := by
 unfold rot_Check.f
 refine Ev.bind hv ?_
 exact Ev.congr (fun k => by rw [if_pos rfl, if_neg h]) (Ev.now _)
theorem check_all {n : Nat} {l : List Ed} {r : List (List Int)} (hg : PureV.Good (n : Int) l) (hv : Ev (fun k => simple_Valid.f k (n : Int) l) true) (h : r.length = n) {ds : List Int} (hd : Ev (fun k => simple_Degrees.f k (n : Int) l) (ds, 0)) (hl : ds.length = n) :
   Ev (fun k => rot_Check.f k (n : Int) l r) (rows (frs l) ds 0 r (List.replicate (frs l).length false)) := by
 unfold rot_Check.f
 refine Ev.bind hv ?_
 refine Ev.congr (f := fun k => (simple_Degrees.f k (n : Int) l).bind fun d => rot_Check.told n l r d) (fun k => by rw [if_pos rfl, if_pos (by omega)]) ?_
 refine Ev.bind hd ?_
 refine Ev.congr (fun k => ?_) (Ev.now _)
 have h1 := hg.2.1
 have h2 := hg.2.2.1
 unfold rot_Check.told
 rw [if_pos ⟨by omega, h1, h2, by simp only; omega, rfl⟩, frs_length]
 rfl
def NextOf (r : List (List Int)) (m : Nat) (nx : List Int) : Prop := nx.length = m ∧ ∀ v, v < r.length → ∀ j, j < (gl r v).length → gi nx (gi (gl r v) j).toNat = gi (gl r v) ((j + 1) % (gl r v).length)
theorem gi_mem {l : List Int} {j : Nat} (h : j < l.length) : gi l j ∈ l := by
 unfold gi
 rw [List.getD_eq_getElem?_getD, List.getElem?_eq_getElem h]
 exact List.getElem_mem h
theorem mem_gi {l : List Int} {x : Int} (h : x ∈ l) : ∃ j, j < l.length ∧ gi l j = x := by
 obtain ⟨j, hj, e⟩ := List.getElem_of_mem h
 exact ⟨j, hj, by unfold gi; rw [List.getD_eq_getElem?_getD, List.getElem?_eq_getElem hj]; exact e⟩
theorem gi_inj {l : List Int} (hn : l.Nodup) {i j : Nat} (hi : i < l.length) (hj : j < l.length) (e : gi l i = gi l j) : i = j := by
 unfold gi at e
 rw [List.getD_eq_getElem?_getD, List.getD_eq_getElem?_getD, List.getElem?_eq_getElem hi, List.getElem?_eq_getElem hj, Option.getD_some, Option.getD_some] at e
 rcases Nat.lt_trichotomy i j with q | q | q
 · exact absurd e (List.pairwise_iff_getElem.1 hn i j hi hj q)
 · exact q
 · exact absurd e.symm (List.pairwise_iff_getElem.1 hn j i hj hi q)
section
variable {fr : List Int} {n : Nat} {r : List (List Int)}
theorem IsRot.at (h : IsRot fr n r) {v j : Nat} (hv : v < n) (hj : j < (gl r v).length) : 0 ≤ gi (gl r v) j ∧ gi (gl r v) j < (fr.length : Int) ∧ gi fr (gi (gl r v) j).toNat = v := leaves_iff.1 ((h.mem v hv _).1 (gi_mem hj))
theorem IsRot.place (h : IsRot fr n r) (hf : ∀ x, x < fr.length → 0 ≤ gi fr x ∧ gi fr x < n) {x : Nat} (hx : x < fr.length) : ∃ v j, v < n ∧ gi fr x = (v : Int) ∧ j < (gl r v).length ∧ gi (gl r v) j = (x : Int) := by
 obtain ⟨h0, h1⟩ := hf x hx
 obtain ⟨v, hv⟩ := Int.eq_ofNat_of_zero_le h0
 have hvn : v < n := by omega
 obtain ⟨j, hj, e⟩ := mem_gi ((h.mem v hvn (x : Int)).2 (leaves_iff.2 ⟨by omega, by omega, by rw [Int.toNat_natCast]; exact hv⟩))
 exact ⟨v, j, hvn, hv, hj, e⟩
theorem IsRot.inj (h : IsRot fr n r) {u v i j : Nat} (hu : u < n) (hv : v < n) (hi : i < (gl r u).length) (hj : j < (gl r v).length) (e : (gi (gl r u) i).toNat = (gi (gl r v) j).toNat) : u = v ∧ i = j := by
 obtain ⟨a1, a2, a3⟩ := h.at hu hi
 obtain ⟨b1, b2, b3⟩ := h.at hv hj
 obtain rfl : u = v := by rw [e, b3] at a3; omega
 exact ⟨rfl, gi_inj (h.nodup u hu) hi hj (by omega)⟩
end
end Go.Proofs.Ytmikcfddipldnaa.Rot
namespace Go.Proofs.Ytmikcfddipldnaa.Rot
open Go.RowKit Go.Proofs.YtmikcfddipldnaaW.PrintWords Go.Proofs.YtmikcfddipldnaaW.PrintLast Go.Proofs.YtmikcfddipldnaaW.PrintMore Go.Proofs.Ytmikcfddipldnaa.GAll Go.Proofs.Ytmikcfddipldnaa.Mem
set_option linter.unusedVariables false
set_option linter.unusedSimpArgs false
theorem setRow_at {row nx : List Int} (hin : ∀ j, j < row.length → (gi row j).toNat < nx.length) (hinj : ∀ i j, i < row.length → j < row.length → (gi row i).toNat = (gi row j).toNat → i = j) : ∀ i, i ≤ row.length →
   (∀ j, j < i → gi (Graph.setRow row nx i) (gi row j).toNat = gi row ((j + 1) % row.length)) ∧ ∀ x, (∀ j, j < i → (gi row j).toNat ≠ x) → gi (Graph.setRow row nx i) x = gi nx x
 | 0, _ => ⟨fun j h => absurd h (by omega), fun x _ => rfl⟩
 | i + 1, hi => by
   obtain ⟨h1, h2⟩ := setRow_at hin hinj i (by omega)
   have hl : (Graph.setRow row nx i).length = nx.length := Graph.setRow_length row nx i
   constructor
   · intro j hj
     show gi ((Graph.setRow row nx i).set (gi row i).toNat (gi row ((i + 1) % row.length))) _ = _
     rw [gi_set]
     by_cases e : (gi row i).toNat = (gi row j).toNat
     · obtain rfl := hinj i j (by omega) (by omega) e
       rw [if_pos ⟨rfl, by rw [hl]; exact hin i (by omega)⟩]
     · rw [if_neg (fun q => e q.1)]
       exact h1 j (by rcases Nat.lt_or_eq_of_le (Nat.le_of_lt_succ hj) with q | rfl; exact q; exact absurd rfl e)
   · intro x hx
     show gi ((Graph.setRow row nx i).set (gi row i).toNat (gi row ((i + 1) % row.length))) _ = _
     rw [gi_set, if_neg (fun q => hx i (by omega) q.1)]
     exact h2 x (fun j hj => hx j (by omega))
theorem setRows_at {fr : List Int} {n : Nat} {r : List (List Int)} (h : IsRot fr n r) : ∀ v, v ≤ n → ∀ u, u < v → ∀ j, j < (gl r u).length → gi (Graph.setRows r fr.length v) (gi (gl r u) j).toNat = gi (gl r u) ((j + 1) % (gl r u).length)
 | 0, _, u, hu, _, _ => absurd hu (by omega)
 | v + 1, hv, u, hu, j, hj => by
   have ih := setRows_at h v (by omega)
   have key := setRow_at (row := gl r v) (nx := Graph.setRows r fr.length v) (fun i hi => by
     rw [Graph.setRows_length]
     obtain ⟨a, b, _⟩ := h.at (show v < n by omega) hi
     omega) (fun i i2 hi hi2 e => (h.inj (by omega) (by omega) hi hi2 e).2) (gl r v).length (Nat.le_refl _)
   show gi (Graph.setRow (gl r v) (Graph.setRows r fr.length v) (gl r v).length) _ = _
   by_cases e : u = v
   · subst e
     exact key.1 j hj
   · rw [key.2 _ (fun i hi q => e (h.inj (show v < n by omega) (show u < n by omega) hi hj q).1.symm)]
     exact ih u (by omega) j hj
theorem nextOf_nxL {fr : List Int} {n : Nat} {r : List (List Int)} (h : IsRot fr n r) : NextOf r fr.length (Graph.nxL r fr.length) := by
 refine ⟨Graph.setRows_length r fr.length r.length, fun v hv j hj => ?_⟩
 unfold Graph.nxL
 exact setRows_at h r.length (by rw [h.len]; exact Nat.le_refl _) v hv j hj
theorem row_len {fr : List Int} {n : Nat} {r : List (List Int)} (h : IsRot fr n r) {v : Nat} (hv : v < n) : (gl r v).length = cnt fr fr.length v := by
 have h1 := nodup_subset (gl r v) (leaving fr v) (h.nodup v hv) (fun x hx => mem_leaving.2 ((h.mem v hv x).1 hx))
 have h2 := nodup_subset (leaving fr v) (gl r v) (leaving_nodup fr v) (fun x hx => (h.mem v hv x).2 (mem_leaving.1 hx))
 rw [leaving_cnt] at h1 h2
 omega
theorem next_in {fr : List Int} {n : Nat} {r : List (List Int)} {nx : List Int} (h : IsRot fr n r) (hx : NextOf r fr.length nx) (hf : ∀ x, x < fr.length → 0 ≤ gi fr x ∧ gi fr x < n) {x : Nat} (hh : x < fr.length) : 0 ≤ gi nx x ∧ gi nx x < (fr.length : Int) ∧ gi fr (gi nx x).toNat = gi fr x := by
 obtain ⟨v, j, h1, h2, h3, h4⟩ := h.place hf hh
 have := hx.2 v (by rw [h.len]; exact h1) j h3
 rw [h4, Int.toNat_natCast] at this
 have q := h.at h1 (Nat.mod_lt (j + 1) (show 0 < (gl r v).length by omega))
 rw [this, h2]
 exact q
section
variable {n : Nat} {l : List Ed} {r : List (List Int)}
abbrev nxOf (l : List Ed) (r : List (List Int)) : List Int := Graph.nxL r (2 * l.length)
theorem nxOf_next (h : IsRot (frs l) n r) : NextOf r (frs l).length (nxOf l r) := by
 have := nextOf_nxL h
 rw [frs_length] at this ⊢
 exact this
theorem frs_in (hg : PureV.Good (n : Int) l) : ∀ x, x < (frs l).length → 0 ≤ gi (frs l) x ∧ gi (frs l) x < (n : Int) := fun x hx => frs_range hg (by rw [frs_length] at hx; exact hx)
theorem degs_of {ds : List Int} (hd : ds.length = n) (hv : ∀ v, v < n → gi ds v = ((leaving (frs l) v).length : Int)) : ds = Graph.degs (ends l) n := by
 have hl : (Graph.degs (ends l) n).length = n := by unfold Graph.degs; simp
 refine List.ext_getElem (by rw [hd, hl]) (fun v h1 h2 => ?_)
 have a := hv v (by omega)
 have b := Graph.gi_degs (es := ends l) (n := n) (v := v) (by omega)
 rw [leaving_cnt] at a
 have c : gi ds v = gi (Graph.degs (ends l) n) v := by rw [a, b]; rfl
 unfold gi at c
 rw [List.getD_eq_getElem?_getD, List.getD_eq_getElem?_getD, List.getElem?_eq_getElem h1, List.getElem?_eq_getElem h2] at c
 exact c
end
end Go.Proofs.Ytmikcfddipldnaa.Rot
namespace Go.Proofs.Ytmikcfddipldnaa.GAll
open Go.RowKit Go.Proofs.YtmikcfddipldnaaW.PrintWords Go.Proofs.YtmikcfddipldnaaW.PrintLast Go.Proofs.YtmikcfddipldnaaW.PrintMore
attribute [local go_sem] max2_int min2_int max_two min_two max_three min_three max_four min_four   -- for this text's walks alone
set_option linter.unusedVariables false
set_option linter.unusedSimpArgs false
def rot_Next.fit (m : Nat) (r : List (List Int)) : Bool := decide (m ≤ 4194304) && (decide (r.length ≤ 1048576) && r.all fun row => decide (row.length ≤ 8388608) && row.all fun h => decide (0 ≤ h ∧ h < ((2 * m : Nat) : Int)))
def rot_Next.f (k : Nat) (a0_0 : Int) (l0_1 : List S56) (l1 : List (List Int)) : Option (List Int × Int) := (rot_Check.f k a0_0 l0_1 l1).bind fun t => if t.2 = 0 then (if rot_Next.fit l0_1.length l1 = true then some (Graph.nxL l1 (2 * l0_1.length), 0) else none) else some ([], t.2)
theorem rot_Next.mono : ∀ a0 a1 a2 k, LeO (rot_Next.f k a0 a1 a2) (rot_Next.f (k + 1) a0 a1 a2) := by
 intro a0 a1 a2 k
 unfold rot_Next.f
 exact LeO.bind (rot_Check.mono _ _ _ _) (fun _ => LeO.refl _)
theorem rot_Next.at_ {m : Nat} {r : List (List Int)} (h : rot_Next.fit m r = true) : m ≤ 4194304 ∧ r.length ≤ 1048576 ∧ (∀ v, v < r.length → (Mem.gl r v).length ≤ 8388608) ∧ ∀ v i, v < r.length → i < (Mem.gl r v).length → 0 ≤ Mem.gi (Mem.gl r v) i ∧ Mem.gi (Mem.gl r v) i < ((2 * m : Nat) : Int) := by
 unfold rot_Next.fit at h
 rw [Bool.and_eq_true, Bool.and_eq_true, List.all_eq_true, decide_eq_true_eq, decide_eq_true_eq] at h
 have hm : ∀ v, v < r.length → Mem.gl r v ∈ r := fun v hv => by
   unfold Mem.gl
   rw [List.getD_eq_getElem?_getD, List.getElem?_eq_getElem hv]
   exact List.getElem_mem hv
 refine ⟨h.1, h.2.1, fun v hv => ?_, fun v i hv hi => ?_⟩
 · have h2 := h.2.2 _ (hm v hv)
   rw [Bool.and_eq_true, decide_eq_true_eq] at h2
   exact h2.1
 · have h2 := h.2.2 _ (hm v hv)
   rw [Bool.and_eq_true, List.all_eq_true] at h2
   have h3 : Mem.gi (Mem.gl r v) i ∈ Mem.gl r v := by
     unfold Mem.gi
     rw [List.getD_eq_getElem?_getD, List.getElem?_eq_getElem hi]
     exact List.getElem_mem hi
   exact of_decide_eq_true (h2.2 _ h3)
theorem rot_Next.calls (k : Nat) (a0_0 : Int) (A0_1 : Option Addr) (c0_1 : Nat) (l0_1 : List (S56)) (A1 : Option Addr) (c1 : Nat) (l1 : List (List Int)) (r1 : List Int) (r2 : Int) (w : World) (hr0_1 : Kd.C k56 w A0_1 l0_1.length l0_1) (hc0_1 : l0_1.length ≤ c0_1) (hr1 : Kd.C (Kd.slice 3 (Kd.int .i64)) w A1 l1.length l1) (hc1 : l1.length ≤ c1) (h : rot_Next.f k a0_0 l0_1 l1 = some (r1, r2)) :
   Calls Try.prog 22 #[.agg #[.int .i64 a0_0, .slice A0_1 l0_1.length c0_1], .slice A1 l1.length c1] w fun e w' => ∃ v0_ : Value, e = .returned (.tuple #[v0_, .int .i64 r2]) ∧ Kd.R (Kd.int .i64) 3 w' w.heap.size (fun _ => True) v0_ r1 ∧ Below w.heap.size w w' := by
 obtain ⟨⟨v0, e0⟩, ht, h⟩ := Option.bind_eq_some_iff.mp h
 have hck : ∀ W : World, Below w.heap.size w W → Calls Try.prog 34 #[.agg #[.int .i64 a0_0, .slice A0_1 l0_1.length c0_1], .slice A1 l1.length c1] W fun e w' => e = .returned (.tuple #[.int .i64 v0, .int .i64 e0]) ∧ Below W.heap.size W w' :=
   fun W hW => rot_Check.calls k a0_0 A0_1 c0_1 l0_1 A1 c1 l1 v0 e0 W (Kd.C_below hr0_1 hW) hc0_1 (Kd.C_below hr1 hW) hc1 ht
 by_cases he : e0 = 0
 · subst he
   rw [if_pos rfl] at h
   by_cases hf : rot_Next.fit l0_1.length l1 = true
   · rw [if_pos hf] at h
     obtain ⟨g1, g2, g3, g4⟩ := rot_Next.at_ hf
     obtain ⟨rfl, rfl⟩ : Graph.nxL l1 (2 * l0_1.length) = r1 ∧ 0 = r2 := by simpa using h
     exact Graph.next_ok a0_0 A0_1 l0_1.length c0_1 A1 c1 l1 v0 w hr1 g1 g4 (fun v hv => Nat.le_trans (g3 v hv) (by decide)) (Nat.le_trans g2 (by decide)) hck
   · rw [if_neg hf] at h; cases h
 · rw [if_neg he] at h
   obtain ⟨rfl, rfl⟩ : ([] : List Int) = r1 ∧ e0 = r2 := by simpa using h
   exact Graph.next_bad a0_0 A0_1 l0_1.length c0_1 A1 l1.length c1 v0 e0 he w hck
end Go.Proofs.Ytmikcfddipldnaa.GAll
namespace Go.Proofs.Ytmikcfddipldnaa.GAll
open Go.RowKit Go.Proofs.YtmikcfddipldnaaW.PrintWords Go.Proofs.YtmikcfddipldnaaW.PrintLast Go.Proofs.YtmikcfddipldnaaW.PrintMore
attribute [local go_sem] max2_int min2_int max_two min_two max_three min_three max_four min_four   -- for this text's walks alone
set_option linter.unusedVariables false
set_option linter.unusedSimpArgs false
theorem comps_Of.pairs {w : World} {A : Option Addr} {l : List S56} (h : Kd.C k56 w A l.length l) : Sets.Pairs w A (l.map fun x => (x.f0, x.f1)) := by
 intro i hi
 rw [List.length_map] at hi
 obtain ⟨ad, e, h1, h2⟩ := at_T56 h (i : Int) (by omega) (by omega)
 have e2 : Sets.pe (l.map fun x => (x.f0, x.f1)) i = ((rd_T56 l (i : Int)).f0, (rd_T56 l (i : Int)).f1) := by
   unfold Sets.pe rd_T56
   simp [List.getD_eq_getElem?_getD, hi]
 rw [e2]
 exact ⟨ad, e, h1, h2⟩
def comps_Of.out (n : Int) (l : List S56) : List Nat × Nat := Sets.numTo (Sets.joinAll (List.range n.toNat) (l.map fun x => (x.f0, x.f1))) n.toNat
def comps_Of.f (k : Nat) (a0_0 : Int) (l0_1 : List S56) : Option (List Int × Int × Int) := (simple_Valid.f k a0_0 l0_1).bind fun t => if t = true then (if 0 ≤ a0_0 ∧ a0_0 ≤ 1048576 then some ((comps_Of.out a0_0 l0_1).1.map (fun (x : Nat) => (x : Int)), (((comps_Of.out a0_0 l0_1).2 : Nat) : Int), 0) else none) else some ([], 0, 1)
theorem comps_Of.mono : ∀ a0 a1 k, LeO (comps_Of.f k a0 a1) (comps_Of.f (k + 1) a0 a1) := by
 intro a0 a1 k
 unfold comps_Of.f
 exact LeO.bind (simple_Valid.mono _ _ _) (fun _ => LeO.refl _)
set_option maxHeartbeats 1000000 in
set_option maxRecDepth 100000 in
theorem comps_Of.calls (k : Nat) (a0_0 : Int) (A0_1 : Option Addr) (c0_1 : Nat) (l0_1 : List (S56)) (r1 : List Int) (r2 : Int) (r3 : Int) (w : World) (hr0_1 : Kd.C k56 w A0_1 l0_1.length l0_1) (hc0_1 : l0_1.length ≤ c0_1) (h : comps_Of.f k a0_0 l0_1 = some (r1, r2, r3)) :
   Calls Try.prog 24 #[.agg #[.int .i64 a0_0, .slice A0_1 l0_1.length c0_1]] w fun e w' => ∃ v0_ : Value, e = .returned (.tuple #[v0_, .int .i64 r2, .int .i64 r3]) ∧ Kd.R (Kd.int .i64) 3 w' w.heap.size (fun _ => True) v0_ r1 ∧ Below w.heap.size w w' := by
 obtain ⟨t, ht, h⟩ := Option.bind_eq_some_iff.mp h
 cases t with
 | false =>
   rw [if_neg (by decide)] at h
   obtain ⟨rfl, rfl, rfl⟩ : [] = r1 ∧ 0 = r2 ∧ 1 = r3 := by simpa using h
   have hv : Sets.SaysNo a0_0 A0_1 l0_1.length c0_1 w := fun W hW => simple_Valid.calls k a0_0 A0_1 c0_1 l0_1 false W (Kd.C_below hr0_1 hW) hc0_1 ht
   exact (Sets.of_no a0_0 A0_1 l0_1.length c0_1 w hv).mono fun e w' ⟨h1, h2⟩ => ⟨_, h1, Kd.R_nil _ _ _ _ _, h2⟩
 | true =>
   rw [if_pos rfl] at h
   by_cases hn : 0 ≤ a0_0 ∧ a0_0 ≤ 1048576
   · rw [if_pos hn] at h
     obtain ⟨n, rfl⟩ := Int.eq_ofNat_of_zero_le hn.1
     have hn3 : n ≤ 1048576 := Int.ofNat_le.1 hn.2
     have ho : comps_Of.out (n : Int) l0_1 = Sets.numTo (Sets.joinAll (List.range n) (l0_1.map fun x => (x.f0, x.f1))) n := by unfold comps_Of.out; rw [Int.toNat_natCast]
     rw [ho] at h
     have hv : Sets.SaysYes (n : Int) A0_1 (l0_1.map fun x => (x.f0, x.f1)).length c0_1 w := fun W hW => by
       rw [List.length_map]; exact simple_Valid.calls k _ A0_1 c0_1 l0_1 true W (Kd.C_below hr0_1 hW) hc0_1 ht
     have hl : (l0_1.map fun x => (x.f0, x.f1)).length ≤ 9223372036854775807 := by rw [List.length_map]; exact Sets.C_le hr0_1
     have hc := Sets.of_yes n A0_1 c0_1 (l0_1.map fun x => (x.f0, x.f1)) w
     have hc := hc hv
     have hc := hc hn3 (comps_Of.pairs hr0_1) hl
     rw [List.length_map] at hc
     refine hc.mono fun e w' ⟨bo, h1, h2, h3, h4⟩ => ?_
     simp only [Option.some.injEq, Prod.mk.injEq] at h
     obtain ⟨rfl, rfl, rfl⟩ := h
     have hn2 := Sets.numTo_length (Sets.joinAll (List.range n) (l0_1.map fun x => (x.f0, x.f1))) n
     have hr := Sets.row_own (ok := fun _ => True) h3 h2 (by rw [hn2]; exact Nat.le_trans hn3 (by decide)) trivial
     rw [hn2] at hr
     exact ⟨_, h1, hr, h4⟩
   · rw [if_neg hn] at h; cases h
end Go.Proofs.Ytmikcfddipldnaa.GAll
namespace Go.Proofs.Ytmikcfddipldnaa.GAll
open Go.RowKit Go.Proofs.YtmikcfddipldnaaW.PrintWords Go.Proofs.YtmikcfddipldnaaW.PrintLast Go.Proofs.YtmikcfddipldnaaW.PrintMore
attribute [local go_sem] max2_int min2_int max_two min_two max_three min_three max_four min_four   -- for this text's walks alone
set_option linter.unusedVariables false
set_option linter.unusedSimpArgs false
mutual
def tangramref05_New.j0 : Nat → Int → Bool → Option (List Int × Int)
 | 0, _, _ => none
 | k + 1, x0, x11 => if x11 = true then (some (([] : List Int), 2)) else (tangramref05_New.l0 k x0 ([] : List Int) 0)
def tangramref05_New.l0 : Nat → Int → List Int → Int → Option (List Int × Int)
 | 0, _, _, _ => none
 | k + 1, x0, x4, x5 => if x5 < x0 then (if x4.length < 17592186044416 then (tangramref05_New.l0 k x0 (x4 ++ [x5]) (wrap64 (x5 + 1))) else (none)) else (some (x4, 0))
end
def tangramref05_New.f (k : Nat) (a0 : Int) : Option (List Int × Int) := if a0 < 0 then (tangramref05_New.j0 k a0 true) else (tangramref05_New.j0 k a0 (decide (a0 > 1048576)))
theorem tangramref05_New.mono_l : ∀ k, (∀ y0 y1, LeO (tangramref05_New.j0 k y0 y1) (tangramref05_New.j0 (k + 1) y0 y1)) ∧ (∀ y0 y1 y2, LeO (tangramref05_New.l0 k y0 y1 y2) (tangramref05_New.l0 (k + 1) y0 y1 y2))
 | 0 => ⟨fun _ _ r h => by simp [tangramref05_New.j0] at h, fun _ _ _ r h => by simp [tangramref05_New.l0] at h⟩
 | k + 1 => by
   obtain ⟨ih0, ih1⟩ := tangramref05_New.mono_l k
   refine ⟨?_, ?_⟩
   · intro y0 y1
     unfold tangramref05_New.j0
     repeat' first
     | (with_reducible exact ih0 _ _)
     | (with_reducible exact ih1 _ _ _)
     | (with_reducible exact LeO.refl _)
     | (with_reducible exact LeO.none _)
     | (with_reducible refine LeO.ite ?_ ?_)
     | (with_reducible refine LeO.bind ?_ (fun _ => ?_))
     | exact ih0 _ _
     | exact ih1 _ _ _
     | exact LeO.none _
     | refine LeO.ite ?_ ?_
     | refine LeO.bind ?_ (fun _ => ?_)
   · intro y0 y1 y2
     unfold tangramref05_New.l0
     repeat' first
     | (with_reducible exact ih0 _ _)
     | (with_reducible exact ih1 _ _ _)
     | (with_reducible exact LeO.refl _)
     | (with_reducible exact LeO.none _)
     | (with_reducible refine LeO.ite ?_ ?_)
     | (with_reducible refine LeO.bind ?_ (fun _ => ?_))
     | exact ih0 _ _
     | exact ih1 _ _ _
     | exact LeO.none _
     | refine LeO.ite ?_ ?_
     | refine LeO.bind ?_ (fun _ => ?_)
theorem tangramref05_New.mono : ∀ a0 k, LeO (tangramref05_New.f k a0) (tangramref05_New.f (k + 1) a0) := by
 intro a0 k
 obtain ⟨ih0, ih1⟩ := tangramref05_New.mono_l k
 unfold tangramref05_New.f
 repeat' first
     | (with_reducible exact ih0 _ _)
     | (with_reducible exact ih1 _ _ _)
     | (with_reducible exact LeO.refl _)
     | (with_reducible exact LeO.none _)
     | (with_reducible refine LeO.ite ?_ ?_)
     | (with_reducible refine LeO.bind ?_ (fun _ => ?_))
     | exact ih0 _ _
     | exact ih1 _ _ _
     | exact LeO.none _
     | refine LeO.ite ?_ ?_
     | refine LeO.bind ?_ (fun _ => ?_)
end Go.Proofs.Ytmikcfddipldnaa.GAll
namespace Go.Proofs.Ytmikcfddipldnaa.GAll
open Go.RowKit Go.Proofs.YtmikcfddipldnaaW.PrintWords Go.Proofs.YtmikcfddipldnaaW.PrintLast Go.Proofs.YtmikcfddipldnaaW.PrintMore
attribute [local go_sem] max2_int min2_int max_two min_two max_three min_three max_four min_four   -- for this text's walks alone
set_option linter.unusedVariables false
set_option linter.unusedSimpArgs false
theorem tangramref05_Of.pairs {w : World} {A : Option Addr} {l : List S56} (h : Kd.C k56 w A l.length l) : Sets.Pairs w A (l.map fun x => (x.f0, x.f1)) := by
 intro i hi
 rw [List.length_map] at hi
 obtain ⟨ad, e, h1, h2⟩ := at_T56 h (i : Int) (by omega) (by omega)
 have e2 : Sets.pe (l.map fun x => (x.f0, x.f1)) i = ((rd_T56 l (i : Int)).f0, (rd_T56 l (i : Int)).f1) := by
   unfold Sets.pe rd_T56
   simp [List.getD_eq_getElem?_getD, hi]
 rw [e2]
 exact ⟨ad, e, h1, h2⟩
theorem tangramref05_Of.newLoop (n : Nat) (hn : n ≤ 1048576) (d : Nat) : ∀ (k i : Nat), i + d = n → d < k → tangramref05_New.l0 k (n : Int) ((List.range i).map fun (x : Nat) => (x : Int)) (i : Int) = some ((List.range n).map (fun (x : Nat) => (x : Int)), 0) := by
 induction d with
 | zero =>
   intro k i hi hk
   obtain ⟨k, rfl⟩ : ∃ m, k = m + 1 := ⟨k - 1, by omega⟩
   obtain rfl : i = n := by omega
   simp only [tangramref05_New.l0]; rw [if_neg (by omega)]
 | succ d ih =>
   intro k i hi hk
   obtain ⟨k, rfl⟩ : ∃ m, k = m + 1 := ⟨k - 1, by omega⟩
   simp only [tangramref05_New.l0]
   rw [if_pos (by omega), if_pos (by rw [List.length_map, List.length_range]; omega)]
   have e1 : wrap64 ((i : Int) + 1) = ((i + 1 : Nat) : Int) := by unfold wrap64; omega
   have e2 : ((List.range i).map fun (x : Nat) => (x : Int)) ++ [(i : Int)] = (List.range (i + 1)).map fun (x : Nat) => (x : Int) := by rw [List.range_succ, List.map_append]; rfl
   rw [e1, e2]
   exact ih k (i + 1) (by omega) (by omega)
theorem tangramref05_Of.new (n : Nat) (hn : n ≤ 1048576) : tangramref05_New.f (n + 2) (n : Int) = some ((List.range n).map (fun (x : Nat) => (x : Int)), 0) := by
 unfold tangramref05_New.f
 rw [if_neg (by omega)]
 have hd : decide ((n : Int) > 1048576) = false := decide_eq_false (by omega)
 rw [hd]
 simp only [tangramref05_New.j0]
 rw [if_neg (by decide)]
 exact tangramref05_Of.newLoop n hn n (n + 1) 0 (by omega) (by omega)
def tangramref05_Of.fit (n : Int) (l : List S56) : Bool := decide (0 ≤ n) && decide (n ≤ 1048576) && decide (l.length ≤ 4194304) && l.all fun x => decide (0 ≤ x.f0) && decide (x.f0 < n) && decide (0 ≤ x.f1) && decide (x.f1 < n)
def tangramref05_Of.out (n : Int) (l : List S56) : List Nat × Nat := Sets.numTo (Sets.joinAll (List.range n.toNat) (l.map fun x => (x.f0, x.f1))) n.toNat
def tangramref05_Of.f (k : Nat) (a0_0 : Int) (l0_1 : List S56) : Option (List Int × Int × Int) := (tangramref03_Valid.f k a0_0 l0_1).bind fun t => if t = true then (if tangramref05_Of.fit a0_0 l0_1 = true then some ((tangramref05_Of.out a0_0 l0_1).1.map (fun (x : Nat) => (x : Int)), (((tangramref05_Of.out a0_0 l0_1).2 : Nat) : Int), 0) else none) else some ([], 0, 1)
theorem tangramref05_Of.mono : ∀ a0 a1 k, LeO (tangramref05_Of.f k a0 a1) (tangramref05_Of.f (k + 1) a0 a1) := by
 intro a0 a1 k
 unfold tangramref05_Of.f
 exact LeO.bind (tangramref03_Valid.mono _ _ _) (fun _ => LeO.refl _)
end Go.Proofs.Ytmikcfddipldnaa.GAll
namespace Go.Proofs.Ytmikcfddipldnaa.Rot
open Go.RowKit Go.Proofs.YtmikcfddipldnaaW.PrintWords Go.Proofs.YtmikcfddipldnaaW.PrintLast Go.Proofs.YtmikcfddipldnaaW.PrintMore Go.Proofs.Ytmikcfddipldnaa.GAll Go.Proofs.Ytmikcfddipldnaa.Mem
set_option linter.unusedVariables false
set_option linter.unusedSimpArgs false
def Small (r : List (List Int)) : Prop := r.length * 24 ≤ 140737488351232 ∧ ∀ l ∈ r, l.length * 8 ≤ 140737488351232
theorem Small.all {r : List (List Int)} (h : Small r) : (r.all fun row => decide (row.length * 8 ≤ 140737488351232)) = true := by
 rw [List.all_eq_true]
 exact fun x hx => decide_eq_true (h.2 x hx)
theorem good_not {n : Int} {l : List Ed} (h : ¬ PureV.Good n l) : ValH.goodB n (ends l) ≠ true := fun q => h ((PureV.good_iff n l).1 q)
theorem rows_one (fr ds : List Int) : ∀ (r : List (List Int)) (v : Nat) (S : List Bool), (rows fr ds v r S).2 ≠ 1
 | [], v, S => by show (0 : Int) ≠ 1; decide
 | row :: r, v, S => by
   rw [rows_cons]
   cases h : elems fr v row S with
   | error e =>
     have := elems_err fr v row S e h
     show e ≠ 1
     omega
   | ok S' =>
     rw [after_ok]
     split
     · exact rows_one fr ds r (v + 1) S'
     · show (113 : Int) ≠ 1; decide
theorem both_check (n : Int) (l : List Ed) (r : List (List Int)) (hs : Small r) : ∃ res, Ev (fun k => rot_Check.f k n l r) res ∧ Ev (fun k => tangramref11_Check.f k n l r) res ∧ (res.2 = 0 → res = (0, 0)) ∧ (res.2 = 0 ↔ ∃ N : Nat, n = N ∧ PureV.Good n l ∧ IsRot (frs l) N r) ∧ (res.2 = 1 ↔ ¬ PureV.Good n l) := by
 have hr : ∀ {res : Int × Int}, Graph.checkR n (ends l) r = res → Ev (fun k => tangramref11_Check.f k n l r) res := by
   rintro res rfl
   refine Ev.congr (fun k => ?_) (Ev.now _)
   unfold tangramref11_Check.f
   rw [if_pos hs.all]
   rfl
 obtain ⟨b, hb, _, hg⟩ := PureV.valid n l
 cases b with
 | false =>
   have hG : ¬ PureV.Good n l := fun q => absurd (hg.2 q) (by decide)
   refine ⟨_, check_no hb, hr ?_, fun h => by simp at h, ⟨fun h => by simp at h, ?_⟩, ⟨fun _ => hG, fun _ => rfl⟩⟩
   · unfold Graph.checkR
     rw [if_neg (good_not hG)]
   · rintro ⟨N, rfl, h, _⟩
     exact absurd h hG
 | true =>
   have hG := hg.1 rfl
   have hB : ValH.goodB n (ends l) = true := (PureV.good_iff n l).2 hG
   by_cases hl : (r.length : Int) = n
   · obtain ⟨N, rfl⟩ := Int.eq_ofNat_of_zero_le hG.1
     have hl2 : r.length = N := by omega
     obtain ⟨ds, hd, h1, h2⟩ := degrees_ev hG hb
     have hz := rows_zero (frs l) ds r 0 (List.replicate (frs l).length false)
     have hc := check_all hG hb hl2 hd h1
     refine ⟨_, hc, hr ?_, fun h => hz.resolve_right (fun q => q h), ⟨fun h => ?_, ?_⟩, ⟨fun h => ?_, fun h => absurd hG h⟩⟩
     · unfold Graph.checkR
       rw [if_pos hB, if_pos hl, degs_of h1 h2, Int.toNat_natCast, frs_length, ends_length]
       rfl
     · exact ⟨N, rfl, hG, (isRot_of hl2 h2).1 (hz.resolve_right (fun q => q h))⟩
     · rintro ⟨M, e, _, h⟩
       obtain rfl : N = M := by omega
       rw [(isRot_of hl2 h2).2 h]
     · exact absurd h (rows_one (frs l) ds r 0 (List.replicate (frs l).length false))
   · refine ⟨_, check_len hb hl, hr ?_, fun h => by simp at h, ⟨fun h => by simp at h, ?_⟩, ⟨fun h => by simp at h, fun h => absurd hG h⟩⟩
     · unfold Graph.checkR
       rw [if_pos hB, if_neg hl]
     · rintro ⟨N, rfl, _, h⟩
       exact absurd h.len (by omega)
structure IsMap (n : Nat) (l : List Ed) (r : List (List Int)) : Prop where
 good : PureV.Good (n : Int) l
 rot : IsRot (frs l) n r
section
variable {n : Nat} {l : List Ed} {r : List (List Int)}
theorem IsMap.len (h : IsMap n l r) : (nxOf l r).length = 2 * l.length := Graph.setRows_length r _ _
theorem IsMap.rows (h : IsMap n l r) : l.length ≤ 4194304 ∧ r.length ≤ 1048576 ∧ ∀ row ∈ r, row.length ≤ 8388608 ∧ ∀ x ∈ row, 0 ≤ x ∧ x < ((2 * l.length : Nat) : Int) := by
 have h1 := h.good.2.1
 have h2 := h.good.2.2.1
 have h3 := h.rot.len
 refine ⟨h2, by omega, fun row hrow => ?_⟩
 obtain ⟨v, hv, rfl⟩ := List.getElem_of_mem hrow
 have e : r[v] = gl r v := by unfold gl; rw [List.getD_eq_getElem?_getD, List.getElem?_eq_getElem hv]; rfl
 rw [e]
 refine ⟨?_, fun x hx => ?_⟩
 · rw [row_len h.rot (by omega)]
   have := cnt_le (frs l) (frs l).length v
   have := frs_length l
   omega
 · have := leaves_iff.1 ((h.rot.mem v (by omega) x).1 hx)
   rw [frs_length] at this
   exact ⟨this.1, this.2.1⟩
theorem next_ev (h : IsMap n l r) (hc : Ev (fun k => rot_Check.f k (n : Int) l r) (0, 0)) : Ev (fun k => rot_Next.f k (n : Int) l r) (nxOf l r, 0) := by
 unfold rot_Next.f
 refine Ev.bind hc (Ev.congr (fun k => if_pos rfl) (Ev.congr (fun k => if_pos ?_) (Ev.now _)))
 obtain ⟨a, b, c⟩ := h.rows
 unfold rot_Next.fit
 rw [Bool.and_eq_true, Bool.and_eq_true, List.all_eq_true, decide_eq_true_eq, decide_eq_true_eq]
 refine ⟨a, b, fun row hrow => ?_⟩
 rw [Bool.and_eq_true, List.all_eq_true, decide_eq_true_eq]
 exact ⟨(c row hrow).1, fun x hx => decide_eq_true ((c row hrow).2 x hx)⟩
def parts (n : Nat) (l : List Ed) : Nat := (comps_Of.out (n : Int) l).2
end
end Go.Proofs.Ytmikcfddipldnaa.Rot
namespace Go.Proofs.Ytmikcfddipldnaa.GAll
open Go.RowKit Go.Proofs.YtmikcfddipldnaaW.PrintWords Go.Proofs.YtmikcfddipldnaaW.PrintLast Go.Proofs.YtmikcfddipldnaaW.PrintMore
attribute [local go_sem] max2_int min2_int max_two min_two max_three min_three max_four min_four   -- for this text's walks alone
set_option linter.unusedVariables false
set_option linter.unusedSimpArgs false
def tangramref03_SameInts.l0 : Nat → List Int → List Int → Int → Option (Bool)
 | 0, _, _, _ => none
 | k + 1, x0, x1, x5 => if x5 < (x0.length : Int) then (if 0 ≤ x5 then (if x5 < (x1.length : Int) then (if (rd x0 x5) = (rd x1 x5) then (tangramref03_SameInts.l0 k x0 x1 (wrap64 (x5 + 1))) else (some false)) else (none)) else (none)) else (some true)
def tangramref03_SameInts.f (k : Nat) (l0 : List Int) (l1 : List Int) : Option (Bool) := if (l0.length : Int) = (l1.length : Int) then (tangramref03_SameInts.l0 k l0 l1 0) else (some false)
theorem tangramref03_SameInts.mono_l : ∀ k, (∀ y0 y1 y2, LeO (tangramref03_SameInts.l0 k y0 y1 y2) (tangramref03_SameInts.l0 (k + 1) y0 y1 y2))
 | 0 => fun _ _ _ r h => by simp [tangramref03_SameInts.l0] at h
 | k + 1 => by
   have ih0 := tangramref03_SameInts.mono_l k
   · intro y0 y1 y2
     unfold tangramref03_SameInts.l0
     repeat' first
     | (with_reducible exact ih0 _ _ _)
     | (with_reducible exact LeO.refl _)
     | (with_reducible exact LeO.none _)
     | (with_reducible refine LeO.ite ?_ ?_)
     | (with_reducible refine LeO.bind ?_ (fun _ => ?_))
     | exact ih0 _ _ _
     | exact LeO.none _
     | refine LeO.ite ?_ ?_
     | refine LeO.bind ?_ (fun _ => ?_)
theorem tangramref03_SameInts.mono : ∀ a0 a1 k, LeO (tangramref03_SameInts.f k a0 a1) (tangramref03_SameInts.f (k + 1) a0 a1) := by
 intro a0 a1 k
 have ih0 := tangramref03_SameInts.mono_l k
 unfold tangramref03_SameInts.f
 repeat' first
     | (with_reducible exact ih0 _ _ _)
     | (with_reducible exact LeO.refl _)
     | (with_reducible exact LeO.none _)
     | (with_reducible refine LeO.ite ?_ ?_)
     | (with_reducible refine LeO.bind ?_ (fun _ => ?_))
     | exact ih0 _ _ _
     | exact LeO.none _
     | refine LeO.ite ?_ ?_
     | refine LeO.bind ?_ (fun _ => ?_)
set_option maxHeartbeats 8000000 in
set_option maxRecDepth 100000 in
theorem tangramref03_SameInts.calls (k : Nat) (A0 : Option Addr) (c0 : Nat) (l0 : List Int) (A1 : Option Addr) (c1 : Nat) (l1 : List Int) (r : Bool) (w : World) (hr0 : Kd.C (Kd.int .i64) w A0 l0.length l0) (hc0 : l0.length ≤ c0) (hr1 : Kd.C (Kd.int .i64) w A1 l1.length l1) (hc1 : l1.length ≤ c1) (h : tangramref03_SameInts.f k l0 l1 = some r) :
   Calls Try.prog 17 #[.slice A0 l0.length c0, .slice A1 l1.length c1] w fun e w' => e = .returned (.bool r) ∧ Drawn0 w w' := by
 have HR0 := Aside0.mk hr0
 have HC0 := Aside0.mk hc0
 clear hr0 hc0
 have HR1 := Aside0.mk hr1
 have HC1 := Aside0.mk hc1
 clear hr1 hc1
 have H : (if (l0.length : Int) = (l1.length : Int) then (tangramref03_SameInts.l0 k l0 l1 0) else (some false)) = some r := h
 clear h
 by_cases c3 : (l0.length : Int) = (l1.length : Int)
 · rw [if_pos c3] at H
   have c3b0 : ((l0.length : Int) == (l1.length : Int)) = true := beq_iff_eq.mpr c3
   have c3b1 : ((l0.length : Int) != (l1.length : Int)) = false := bne_eq_false_iff_eq.mpr c3
   have c3b2 : (l0.length == l1.length) = true := by first | simpa using c3 | (simp at c3 ⊢; omega)
   clear c3
   have H' := Aside0.mk H
   clear H
   go_enter Try.func17, Try.ntmps17
   go_wp2
   repeat (go_quiet (fail); try go_wp2)
   go_loopg [5] k (fun kq v5 w' => ∃ (x5_1 : Int), v5 = .int .i64 x5_1 ∧ Aside0 (tangramref03_SameInts.l0 kq l0 l1 x5_1 = some r) ∧ Aside0 (kq ≤ k) ∧ Drawn0 w w')
   case atStart => exact ⟨(0), (by first | rfl | (simp; done) | (simp [*]; done)), H', ⟨Nat.le_refl _⟩, by repeat (first | exact Drawn0.refl _ | apply Drawn0.step)⟩
   case round =>
     clear H'
     try clear c1
     try clear p2
     try clear c3
     try clear c3b0
     try clear c3b1
     try clear c3b2
     obtain ⟨x5_1, rfl, HA, HK1, ⟨m1, rfl⟩⟩ := hrel
     cases gk with
     | zero => exact absurd HA.out (by simp [tangramref03_SameInts.l0])
     | succ k1 =>
       have H := HA.out
       clear HA
       simp only [tangramref03_SameInts.l0] at H
       by_cases c4 : x5_1 < (l0.length : Int)
       · rw [if_pos c4] at H
         have c4b0 : decide (x5_1 < (l0.length : Int)) = true := decide_eq_true c4
         clear c4
         by_cases c5 : 0 ≤ x5_1
         · rw [if_pos c5] at H
           have c5b0 : decide (0 ≤ x5_1) = true := decide_eq_true c5
           clear c5
           by_cases c6 : x5_1 < (l1.length : Int)
           · rw [if_pos c6] at H
             have c6b0 : decide (x5_1 < (l1.length : Int)) = true := decide_eq_true c6
             clear c6
             by_cases c7 : (rd l0 x5_1) = (rd l1 x5_1)
             · rw [if_pos c7] at H
               have c7b0 : ((rd l0 x5_1) == (rd l1 x5_1)) = true := beq_iff_eq.mpr c7
               have c7b1 : ((rd l0 x5_1) != (rd l1 x5_1)) = false := bne_eq_false_iff_eq.mpr c7
               clear c7
               have H' := Aside0.mk H
               clear H
               have p129 : 0 ≤ (x5_1 : Int) := of_decide_eq_true (by first | (with_reducible assumption) | assumption)
               have q129 : x5_1 < (l0.length : Int) := of_decide_eq_true (by first | (with_reducible assumption) | assumption)
               obtain ⟨ad129, e129, hx129_0⟩ := Kd.at_int HR0.out x5_1 p129 q129
               cases e129
               replace p129 := eq_true p129
               replace q129 := eq_true q129
               have p130 : 0 ≤ (x5_1 : Int) := of_decide_eq_true (by first | (with_reducible assumption) | assumption)
               have q130 : x5_1 < (l1.length : Int) := of_decide_eq_true (by first | (with_reducible assumption) | assumption)
               obtain ⟨ad130, e130, hx130_0⟩ := Kd.at_int HR1.out x5_1 p130 q130
               cases e130
               replace p130 := eq_true p130
               replace q130 := eq_true q130
               go_wp2
               repeat (go_quiet (fail); try go_wp2)
               go_roundg k1
               case measure => have := HK1.out; omega
               case rel => exact ⟨(wrap64 (x5_1 + 1)), (by first | rfl | (simp; done) | (simp [*]; done)), H', ⟨by have := HK1.out; omega⟩, by repeat (first | exact Drawn0.refl _ | apply Drawn0.step)⟩
             · rw [if_neg c7] at H
               have c7b0 : ((rd l0 x5_1) == (rd l1 x5_1)) = false := beq_eq_false_iff_ne.mpr c7
               have c7b1 : ((rd l0 x5_1) != (rd l1 x5_1)) = true := bne_iff_ne.mpr c7
               obtain rfl := Option.some.inj H
               have p129 : 0 ≤ (x5_1 : Int) := of_decide_eq_true (by first | (with_reducible assumption) | assumption)
               have q129 : x5_1 < (l0.length : Int) := of_decide_eq_true (by first | (with_reducible assumption) | assumption)
               obtain ⟨ad129, e129, hx129_0⟩ := Kd.at_int HR0.out x5_1 p129 q129
               cases e129
               replace p129 := eq_true p129
               replace q129 := eq_true q129
               have p130 : 0 ≤ (x5_1 : Int) := of_decide_eq_true (by first | (with_reducible assumption) | assumption)
               have q130 : x5_1 < (l1.length : Int) := of_decide_eq_true (by first | (with_reducible assumption) | assumption)
               obtain ⟨ad130, e130, hx130_0⟩ := Kd.at_int HR1.out x5_1 p130 q130
               cases e130
               replace p130 := eq_true p130
               replace q130 := eq_true q130
               go_wp2
               repeat (go_quiet (fail); try go_wp2)
               go_ret
               exact ⟨by first | rfl | (simp; done) | (simp [*]; done), by repeat (first | exact Drawn0.refl _ | apply Drawn0.step)⟩
           · rw [if_neg c6] at H
             exact absurd H (by simp)
         · rw [if_neg c5] at H
           exact absurd H (by simp)
       · rw [if_neg c4] at H
         have c4b0 : decide (x5_1 < (l0.length : Int)) = false := decide_eq_false c4
         clear c4
         obtain rfl := Option.some.inj H
         go_wp2
         repeat (go_quiet (fail); try go_wp2)
         go_ret
         exact ⟨by first | rfl | (simp; done) | (simp [*]; done), by repeat (first | exact Drawn0.refl _ | apply Drawn0.step)⟩
 · rw [if_neg c3] at H
   have c3b0 : ((l0.length : Int) == (l1.length : Int)) = false := beq_eq_false_iff_ne.mpr c3
   have c3b1 : ((l0.length : Int) != (l1.length : Int)) = true := bne_iff_ne.mpr c3
   have c3b2 : (l0.length == l1.length) = false := by first | simpa using c3 | (simp at c3 ⊢; omega)
   obtain rfl := Option.some.inj H
   go_enter Try.func17, Try.ntmps17
   go_wp2
   repeat (go_quiet (fail); try go_wp2)
   go_ret
   exact ⟨by first | rfl | (simp; done) | (simp [*]; done), by repeat (first | exact Drawn0.refl _ | apply Drawn0.step)⟩
end Go.Proofs.Ytmikcfddipldnaa.GAll
namespace Go.Proofs.Ytmikcfddipldnaa.GAll
open Go.RowKit Go.Proofs.YtmikcfddipldnaaW.PrintWords Go.Proofs.YtmikcfddipldnaaW.PrintLast Go.Proofs.YtmikcfddipldnaaW.PrintMore
attribute [local go_sem] max2_int min2_int max_two min_two max_three min_three max_four min_four   -- for this text's walks alone
set_option linter.unusedVariables false
set_option linter.unusedSimpArgs false
def tangramref03_Copy.l0 : Nat → List (S56) → Int → Int → List (S56) → Option (Int × (List (S56)))
 | 0, _, _, _, _ => none
 | k + 1, x3, x4, x154000, x154001 => if x4 < (x154001.length : Int) then (if 0 ≤ x4 then (if x3.length < 8796093022208 then (tangramref03_Copy.l0 k (x3 ++ [(⟨(rd_T56 x154001 x4).f0, (rd_T56 x154001 x4).f1⟩ : S56)]) (wrap64 (x4 + 1)) x154000 x154001) else (none)) else (none)) else (some (x154000, x3))
def tangramref03_Copy.f (k : Nat) (a0_0 : Int) (l0_1 : List (S56)) : Option (Int × (List (S56))) := tangramref03_Copy.l0 k ([] : List (S56)) 0 a0_0 l0_1
theorem tangramref03_Copy.mono_l : ∀ k, (∀ y0 y1 y2 y3, LeO (tangramref03_Copy.l0 k y0 y1 y2 y3) (tangramref03_Copy.l0 (k + 1) y0 y1 y2 y3))
 | 0 => fun _ _ _ _ r h => by simp [tangramref03_Copy.l0] at h
 | k + 1 => by
   have ih0 := tangramref03_Copy.mono_l k
   · intro y0 y1 y2 y3
     unfold tangramref03_Copy.l0
     repeat' first
     | (with_reducible exact ih0 _ _ _ _)
     | (with_reducible exact LeO.refl _)
     | (with_reducible exact LeO.none _)
     | (with_reducible refine LeO.ite ?_ ?_)
     | (with_reducible refine LeO.bind ?_ (fun _ => ?_))
     | exact ih0 _ _ _ _
     | exact LeO.none _
     | refine LeO.ite ?_ ?_
     | refine LeO.bind ?_ (fun _ => ?_)
theorem tangramref03_Copy.mono : ∀ a0 a1 k, LeO (tangramref03_Copy.f k a0 a1) (tangramref03_Copy.f (k + 1) a0 a1) := by
 intro a0 a1 k
 have ih0 := tangramref03_Copy.mono_l k
 unfold tangramref03_Copy.f
 repeat' first
     | (with_reducible exact ih0 _ _ _ _)
     | (with_reducible exact LeO.refl _)
     | (with_reducible exact LeO.none _)
     | (with_reducible refine LeO.ite ?_ ?_)
     | (with_reducible refine LeO.bind ?_ (fun _ => ?_))
     | exact ih0 _ _ _ _
     | exact LeO.none _
     | refine LeO.ite ?_ ?_
     | refine LeO.bind ?_ (fun _ => ?_)
set_option maxHeartbeats 8000000 in
set_option maxRecDepth 100000 in
theorem tangramref03_Copy.calls (k : Nat) (a0_0 : Int) (A0_1 : Option Addr) (c0_1 : Nat) (l0_1 : List (S56)) (r1 : Int) (r2 : List (S56)) (w : World) (hr0_1 : Kd.C k56 w A0_1 l0_1.length l0_1) (hc0_1 : l0_1.length ≤ c0_1) (h : tangramref03_Copy.f k a0_0 l0_1 = some (r1, r2)) :
   Calls Try.prog 11 #[.agg #[.int .i64 a0_0, .slice A0_1 l0_1.length c0_1]] w fun e w' => ∃ v1_ : Value, e = .returned (.agg #[.int .i64 r1, v1_]) ∧ Kd.R k56 56 w' w.heap.size (fun _ => True) v1_ r2 ∧ Below w.heap.size w w' := by
 have hu24 := Try.underlying24
 have hu56 := Try.underlying56
 have HR0_1 := Aside0.mk hr0_1
 have HC0_1 := Aside0.mk hc0_1
 clear hr0_1 hc0_1
 have HB := Aside0.mk (Below.refl w.heap.size w)
 have H : (tangramref03_Copy.l0 k ([] : List (S56)) 0 a0_0 l0_1) = some (r1, r2) := h
 clear h
 have H' := Aside0.mk H
 clear H
 go_enter Try.func11, Try.ntmps11
 go_wp2_with (first | ((with_reducible refine gate_dst (N := 1) rfl ?_); refine box_event ?hg (N := 1) ?hd (cs := #[.int .i64 a0_0, .slice A0_1 l0_1.length c0_1]) (t := 24) ?hr ?_; (case hd => rfl); (case hg => rfl); (case hr => first | (go_simp; done) | (go_simp; rfl)); intro gb153 hg w2 hbox hb; have n0_ := Aside0.mk (below_step (by repeat (first | (with_reducible first | exact HB.out | apply below_alloc | apply pw_below_drewN | apply below_drew1) | exact HB.out)) hb); have n1_ := Aside0.mk (hbox); have n2_ := Aside0.mk ((by rw [hg]; exact (below_size (by repeat (first | (with_reducible first | exact HB.out | apply below_alloc | apply pw_below_drewN | apply below_drew1) | exact HB.out))) : w.heap.size ≤ gb153)); have n3_ := Aside0.mk ((by rw [hg]; exact (below_size (by repeat (first | (with_reducible first | exact HB.out | apply below_alloc | apply pw_below_drewN | apply below_drew1) | exact HB.out))) : w.heap.size ≤ gb153)); clear HB; have HB := n0_; have BK153 := n1_; have GW153 := n2_; have GE153 := n3_; clear n0_ n1_ n2_ n3_; clear hb hbox hg) | ((with_reducible refine gate_dst (N := 2) rfl ?_); refine box_event ?hg (N := 2) ?hd (cs := #[.int .i64 0, .slice none 0 0]) (t := 24) ?hr ?_; (case hd => rfl); (case hg => rfl); (case hr => first | (go_simp; done) | (go_simp; rfl)); intro gb154 hg w3 hbox hb; have n0_ := Aside0.mk (blk_below (g := gb153) (o := .cells #[.int .i64 a0_0, .slice A0_1 l0_1.length c0_1] 24 (0, 0)) (by (with_reducible repeat (first | refine blk_drewN ?_ _ | refine blk_drew ?_ | refine blk_alloc ?_ _)); exact BK153.out) hb); have n1_ := Aside0.mk (below_step (by repeat (first | (with_reducible first | exact HB.out | apply below_alloc | apply pw_below_drewN | apply below_drew1 | refine below_set ?_ GE153.out) | exact HB.out)) hb); have n2_ := Aside0.mk (hbox); have n3_ := Aside0.mk ((by rw [hg]; exact (below_size (by repeat (first | (with_reducible first | exact HB.out | apply below_alloc | apply pw_below_drewN | apply below_drew1 | refine below_set ?_ GE153.out) | exact HB.out))) : w.heap.size ≤ gb154)); have n4_ := Aside0.mk ((by rw [hg]; exact (below_size (by repeat (first | (with_reducible first | exact HB.out | apply below_alloc | apply pw_below_drewN | apply below_drew1 | refine below_set ?_ GE153.out) | exact HB.out))) : w.heap.size ≤ gb154)); have n5_ := Aside0.mk ((by rw [hg]; exact Nat.ne_of_lt (blk_lt (g := gb153) (o := .cells #[.int .i64 a0_0, .slice A0_1 l0_1.length c0_1] 24 (0, 0)) (by (with_reducible repeat (first | refine blk_drewN ?_ _ | refine blk_drew ?_ | refine blk_alloc ?_ _)); exact BK153.out)) : gb153 ≠ gb154)); have n6_ := Aside0.mk ((by rw [hg]; exact Nat.ne_of_gt (blk_lt (g := gb153) (o := .cells #[.int .i64 a0_0, .slice A0_1 l0_1.length c0_1] 24 (0, 0)) (by (with_reducible repeat (first | refine blk_drewN ?_ _ | refine blk_drew ?_ | refine blk_alloc ?_ _)); exact BK153.out)) : gb154 ≠ gb153)); clear BK153; clear HB; have BK153 := n0_; have HB := n1_; have BK154 := n2_; have GW154 := n3_; have GE154 := n4_; have NB153_154 := n5_; have NB154_153 := n6_; clear n0_ n1_ n2_ n3_ n4_ n5_ n6_; clear hb hbox hg))
 go_loopg [3, 4] k (fun kq v3 v4 w' => ∃ (x3_1 : List (S56)) (x4_1 : Int), v4 = .int .i64 x4_1 ∧ Aside0 (tangramref03_Copy.l0 kq x3_1 x4_1 a0_0 l0_1 = some (r1, r2)) ∧ Aside0 (kq ≤ k) ∧ Aside0 (Kd.R k56 56 w' w.heap.size (fun _ => True) v3 x3_1) ∧ Aside0 (w'.heap[gb153]? = some (.cells #[.int .i64 a0_0, (.slice A0_1 l0_1.length c0_1)] 24 (0, 0))) ∧ Aside0 (w'.heap[gb154]? = some (.cells #[.int .i64 0, (.slice none 0 0)] 24 (0, 0))) ∧ Aside0 (Below w.heap.size w w'))
 case atStart => exact ⟨(([] : List (S56))), (0), (by first | rfl | (simp; done) | (simp [*]; done)), H', ⟨Nat.le_refl _⟩, ⟨by first | exact Kd.R_nil _ _ _ _ _ | exact Kd.N_nil _ _ _ _ _ | exact Kd.V_nil _ _ _ _ _ | exact Kd.Q_nil _ _ _ _ _ | exact Kd.S_nil _ _ _ _ _⟩, ⟨by (with_reducible repeat (first | refine blk_drewN ?_ _ | refine blk_drew ?_ | refine blk_alloc ?_ _)); exact BK153.out⟩, ⟨by (with_reducible repeat (first | refine blk_drewN ?_ _ | refine blk_drew ?_ | refine blk_alloc ?_ _)); exact BK154.out⟩, ⟨by repeat (first | (with_reducible first | exact HB.out | apply below_alloc | apply pw_below_drewN | apply below_drew1 | refine below_set ?_ GE153.out | refine below_set ?_ GE154.out) | exact HB.out)⟩⟩
 case round =>
   clear H'
   try clear c1
   try clear p2
   obtain ⟨x3_1, x4_1, rfl, HA, HK1, HO_3, BK153, BK154, HB⟩ := hrel
   cases gk with
   | zero => exact absurd HA.out (by simp [tangramref03_Copy.l0])
   | succ k1 =>
     have H := HA.out
     clear HA
     simp only [tangramref03_Copy.l0] at H
     by_cases c4 : x4_1 < (l0_1.length : Int)
     · rw [if_pos c4] at H
       have c4b0 : decide (x4_1 < (l0_1.length : Int)) = true := decide_eq_true c4
       clear c4
       by_cases c5 : 0 ≤ x4_1
       · rw [if_pos c5] at H
         have c5b0 : decide (0 ≤ x4_1) = true := decide_eq_true c5
         clear c5
         by_cases c6 : x3_1.length < 8796093022208
         · rw [if_pos c6] at H
           have LMc6 := Aside0.mk c6
           clear c6
           obtain ⟨y156, hy156⟩ : ∃ y_ : List (S56), y_ = (x3_1 ++ [(⟨(rd_T56 l0_1 x4_1).f0, (rd_T56 l0_1 x4_1).f1⟩ : S56)]) := ⟨_, rfl⟩
           replace H : (tangramref03_Copy.l0 k1 y156 (wrap64 (x4_1 + 1)) a0_0 l0_1) = some (r1, r2) := by first | (rw [hy156]; with_reducible exact H) | (have H2_ := (Option.bind_some _ _).symm.trans H; rw [hy156]; with_reducible exact H2_) | (have H2_ := (Option.bind_some _ _).symm.trans H; with_reducible exact H2_) | with_reducible exact H | (rw [hy156]; exact H) | exact H
           have Ny156 := Aside0.mk hy156
           clear hy156
           have H' := Aside0.mk H
           clear H
           have hnb7 := NB153_154.out
           have hnc7 := NB154_153.out
           have hcz8_0 : wr.cell? ⟨gb153, 0, none⟩ = some (.int .i64 a0_0) := (blk_cell BK153.out 0).trans rfl
           have hcz8_1 : wr.cell? ⟨gb153, 1, none⟩ = some (.slice A0_1 l0_1.length c0_1) := (blk_cell BK153.out 1).trans rfl
           have hfz8_0 := blk_frozen BK153.out 0
           have hfz8_1 := blk_frozen BK153.out 1
           have p155 : 0 ≤ (x4_1 : Int) := of_decide_eq_true (by first | (with_reducible assumption) | assumption)
           have q155 : x4_1 < (l0_1.length : Int) := of_decide_eq_true (by first | (with_reducible assumption) | assumption)
           obtain ⟨ad155, e155, hx155_0, hx155_1⟩ := at_T56 HR0_1.out x4_1 p155 q155
           cases e155
           replace hx155_0 := (HB.out.cell (World.block_lt_of_cell? w _ hx155_0)).trans hx155_0
           replace hx155_1 := (HB.out.cell (World.block_lt_of_cell? w _ hx155_1)).trans hx155_1
           replace p155 := eq_true p155
           replace q155 := eq_true q155
           go_wp2_with (first | ((with_reducible refine gate_builtin (b := .append) (xs := #[.tmp 12, .tmp 18]) rfl ?_); at_builtin; refine Kd.R_append k56 (w0 := w) w.heap.size rfl (.tmp 12) (.tmp 18) 22 56 (.agg #[(.int .i64 0), (.int .i64 0)]) 16 rfl Try.underlying22 info56 rfl (by decide) (by omega) u3 x3_1 (⟨(rd_T56 l0_1 x4_1).f0, (rd_T56 l0_1 x4_1).f1⟩ : S56) [.int .i64 ((rd_T56 l0_1 x4_1).f0), .int .i64 ((rd_T56 l0_1 x4_1).f1)] (fun _ => True) (fun _ => False) rfl rfl ?aP (fun _ hk => hk.elim) ?aF ?aO ?aB ?aS ?aL ?_; (case aP => exact k56_mkM _ _ _ (⟨(rd_T56 l0_1 x4_1).f0, (rd_T56 l0_1 x4_1).f1⟩ : S56)); (case aB => exact (by repeat (first | (with_reducible first | exact HB.out | apply below_alloc | apply pw_below_drewN | apply below_drew1 | refine below_set ?_ GE153.out | refine below_set ?_ GE154.out) | exact HB.out))); (case aF => exact (fun _ _ => trivial)); (case aO => exact (by (with_reducible repeat (first | apply Kd.R_alloc | apply Kd.R_drewN | apply Kd.R_drew)); exact HO_3.out)); (case aS => exact (below_size (by repeat (first | (with_reducible first | exact HB.out | apply below_alloc | apply pw_below_drewN | apply below_drew1 | refine below_set ?_ GE153.out | refine below_set ?_ GE154.out) | exact HB.out)))); (case aL => have := LMc6.out; omega); intro v157 w9 ho hb hg hat; rw [← Ny156.out] at ho; have n0_ := Aside0.mk (blk_grown (g := gb153) (o := .cells #[.int .i64 a0_0, .slice (some ad155) l0_1.length c0_1] 24 (0, 0)) (by (with_reducible repeat (first | refine blk_drewN ?_ _ | refine blk_drew ?_ | refine blk_alloc ?_ _)); exact BK153.out) hg (Kd.R_ne HO_3.out BK153.out (by decide))); have n1_ := Aside0.mk (blk_grown (g := gb154) (o := .cells #[.int .i64 0, .slice none 0 0] 24 (0, 0)) (by (with_reducible repeat (first | refine blk_drewN ?_ _ | refine blk_drew ?_ | refine blk_alloc ?_ _)); exact BK154.out) hg (Kd.R_ne HO_3.out BK154.out (by decide))); have n2_ := Aside0.mk (hb); have n3_ := Aside0.mk (ho); clear BK153; clear BK154; clear HB; clear HO_3; have BK153 := n0_; have BK154 := n1_; have HB := n2_; have HO158 := n3_; clear n0_ n1_ n2_ n3_; clear ho hb hg hat))
           go_roundg k1
           case measure => have := HK1.out; omega
           case rel => exact ⟨(y156), (wrap64 (x4_1 + 1)), (by first | rfl | (simp; done) | (simp [*]; done)), H', ⟨by have := HK1.out; omega⟩, ⟨by (with_reducible repeat (first | apply Kd.R_alloc | apply Kd.R_drewN | apply Kd.R_drew)); exact HO158.out⟩, ⟨by (with_reducible repeat (first | refine blk_drewN ?_ _ | refine blk_drew ?_ | refine blk_alloc ?_ _)); exact BK153.out⟩, ⟨by (with_reducible repeat (first | refine blk_drewN ?_ _ | refine blk_drew ?_ | refine blk_alloc ?_ _)); exact BK154.out⟩, ⟨by repeat (first | (with_reducible first | exact HB.out | apply below_alloc | apply pw_below_drewN | apply below_drew1 | refine below_set ?_ GE153.out | refine below_set ?_ GE154.out) | exact HB.out)⟩⟩
         · rw [if_neg c6] at H
           exact absurd H (by simp)
       · rw [if_neg c5] at H
         exact absurd H (by simp)
     · rw [if_neg c4] at H
       have c4b0 : decide (x4_1 < (l0_1.length : Int)) = false := decide_eq_false c4
       clear c4
       simp only [Option.some.injEq, Prod.mk.injEq] at H
       obtain ⟨rfl, rfl⟩ := H
       have hnb10 := NB153_154.out
       have hnc10 := NB154_153.out
       have hcz11_0 : wr.cell? ⟨gb153, 0, none⟩ = some (.int .i64 a0_0) := (blk_cell BK153.out 0).trans rfl
       have hcz11_1 : wr.cell? ⟨gb153, 1, none⟩ = some (.slice A0_1 l0_1.length c0_1) := (blk_cell BK153.out 1).trans rfl
       have hfz11_0 := blk_frozen BK153.out 0
       have hfz11_1 := blk_frozen BK153.out 1
       obtain ⟨Ao12, co12, eo12⟩ := Kd.R_slice HO_3.out
       subst eo12
       have hcz13_0 : wr.cell? ⟨gb154, 0, none⟩ = some (.int .i64 0) := (blk_cell BK154.out 0).trans rfl
       have hcz13_1 : wr.cell? ⟨gb154, 1, none⟩ = some (.slice none 0 0) := (blk_cell BK154.out 1).trans rfl
       have hfz13_0 := blk_frozen BK154.out 0
       have hfz13_1 := blk_frozen BK154.out 1
       go_wp2
       refine bodyPost_ret (results_cell_row rfl _ _ gb154 24 #[.int .i64 a0_0, .slice Ao12 x3_1.length co12] (0, 0) _ rfl (by (with_reducible repeat (first | refine blk_drewN ?_ _ | refine blk_drew ?_ | refine blk_alloc ?_ _)); refine blk_put (cs := #[.int .i64 a0_0, .slice none 0 0]) ?_ 1 _ rfl; (with_reducible repeat (first | refine blk_drewN ?_ _ | refine blk_drew ?_ | refine blk_alloc ?_ _)); refine blk_put (cs := #[.int .i64 0, .slice none 0 0]) ?_ 0 _ rfl; (with_reducible repeat (first | refine blk_drewN ?_ _ | refine blk_drew ?_ | refine blk_alloc ?_ _)); exact BK154.out) Try.underlying24 rfl (by kernel_rfl)) rfl ?_
       exact ⟨_, by first | rfl | (simp [errW_none, errW_some] <;> rfl) | (simp [*, errW_none, errW_some] <;> rfl), by (with_reducible repeat (first | apply Kd.R_alloc | apply Kd.R_drewN | apply Kd.R_drew)); exact Kd.R_mono (Kd.R_far (p := ⟨gb154, 1, none⟩) (Kd.R_far (p := ⟨gb154, 0, none⟩) (Kd.R_types HO_3.out BK154.out (by decide)) (fun _ hk => hk.2) (.int .i64 a0_0)) (fun _ hk => hk.2) (.slice Ao12 x3_1.length co12)) (fun _ hk => trivial), by repeat (first | (with_reducible first | exact HB.out | apply below_alloc | apply pw_below_drewN | apply below_drew1 | refine below_set ?_ GE153.out | refine below_set ?_ GE154.out) | exact HB.out)⟩
end Go.Proofs.Ytmikcfddipldnaa.GAll
namespace Go.Proofs.Ytmikcfddipldnaa.GAll
open Go.RowKit Go.Proofs.YtmikcfddipldnaaW.PrintWords Go.Proofs.YtmikcfddipldnaaW.PrintLast Go.Proofs.YtmikcfddipldnaaW.PrintMore
attribute [local go_sem] max2_int min2_int max_two min_two max_three min_three max_four min_four   -- for this text's walks alone
set_option linter.unusedVariables false
set_option linter.unusedSimpArgs false
def tangramref11_Copy.l0 : Nat → List (List Int) → List (List Int) → Int → Option ((List (List Int)))
 | 0, _, _, _ => none
 | k + 1, x0, x3, x4 => if x4 < (x0.length : Int) then ((some (([] : List Int) : List Int)).bind fun y159 => (if 0 ≤ x4 then (if y159.length + (rd_L5 x0 x4).length < 17592186044416 then (if x3.length < 5864062014805 then (tangramref11_Copy.l0 k x0 (x3 ++ [(y159 ++ (rd_L5 x0 x4))]) (wrap64 (x4 + 1))) else (none)) else (none)) else (none))) else (some x3)
def tangramref11_Copy.f (k : Nat) (l0 : List (List Int)) : Option ((List (List Int))) := tangramref11_Copy.l0 k l0 ([] : List (List Int)) 0
theorem tangramref11_Copy.mono_l : ∀ k, (∀ y0 y1 y2, LeO (tangramref11_Copy.l0 k y0 y1 y2) (tangramref11_Copy.l0 (k + 1) y0 y1 y2))
 | 0 => fun _ _ _ r h => by simp [tangramref11_Copy.l0] at h
 | k + 1 => by
   have ih0 := tangramref11_Copy.mono_l k
   · intro y0 y1 y2
     unfold tangramref11_Copy.l0
     repeat' first
     | (with_reducible exact ih0 _ _ _)
     | (with_reducible exact LeO.refl _)
     | (with_reducible exact LeO.none _)
     | (with_reducible refine LeO.ite ?_ ?_)
     | (with_reducible refine LeO.bind ?_ (fun _ => ?_))
     | exact ih0 _ _ _
     | exact LeO.none _
     | refine LeO.ite ?_ ?_
     | refine LeO.bind ?_ (fun _ => ?_)
theorem tangramref11_Copy.mono : ∀ a0 k, LeO (tangramref11_Copy.f k a0) (tangramref11_Copy.f (k + 1) a0) := by
 intro a0 k
 have ih0 := tangramref11_Copy.mono_l k
 unfold tangramref11_Copy.f
 repeat' first
     | (with_reducible exact ih0 _ _ _)
     | (with_reducible exact LeO.refl _)
     | (with_reducible exact LeO.none _)
     | (with_reducible refine LeO.ite ?_ ?_)
     | (with_reducible refine LeO.bind ?_ (fun _ => ?_))
     | exact ih0 _ _ _
     | exact LeO.none _
     | refine LeO.ite ?_ ?_
     | refine LeO.bind ?_ (fun _ => ?_)
set_option maxHeartbeats 8000000 in
set_option maxRecDepth 100000 in
theorem tangramref11_Copy.calls (k : Nat) (A0 : Option Addr) (c0 : Nat) (l0 : List (List Int)) (r : List (List Int)) (w : World) (hr0 : Kd.C (Kd.slice 3 (Kd.int .i64)) w A0 l0.length l0) (hc0 : l0.length ≤ c0) (h : tangramref11_Copy.f k l0 = some r) :
   Calls Try.prog 12 #[.slice A0 l0.length c0] w fun e w' => ∃ v0_ : Value, e = .returned (v0_) ∧ Kd.S (Kd.slice 3 (Kd.int .i64)) 36 w' w.heap.size (fun _ => True) v0_ r ∧ Below w.heap.size w w' := by
 have HR0 := Aside0.mk hr0
 have HC0 := Aside0.mk hc0
 clear hr0 hc0
 have HB := Aside0.mk (Below.refl w.heap.size w)
 have H : (tangramref11_Copy.l0 k l0 ([] : List (List Int)) 0) = some r := h
 clear h
 have H' := Aside0.mk H
 clear H
 go_enter Try.func12, Try.ntmps12
 go_wp2
 go_loopg [3, 4] k (fun kq v3 v4 w' => ∃ (x3_1 : List (List Int)) (x4_1 : Int), v4 = .int .i64 x4_1 ∧ Aside0 (tangramref11_Copy.l0 kq l0 x3_1 x4_1 = some r) ∧ Aside0 (kq ≤ k) ∧ Aside0 (Kd.S (Kd.slice 3 (Kd.int .i64)) 36 w' w.heap.size (fun _ => True) v3 x3_1) ∧ Aside0 (Below w.heap.size w w'))
 case atStart => exact ⟨(([] : List (List Int))), (0), (by first | rfl | (simp; done) | (simp [*]; done)), H', ⟨Nat.le_refl _⟩, ⟨by first | exact Kd.S_nil _ _ _ _ _ | exact Kd.N_nil _ _ _ _ _ | exact Kd.V_nil _ _ _ _ _ | exact Kd.Q_nil _ _ _ _ _ | exact Kd.R_nil _ _ _ _ _⟩, ⟨by repeat (first | (with_reducible first | exact HB.out | apply below_alloc | apply pw_below_drewN | apply below_drew1) | exact HB.out)⟩⟩
 case round =>
   clear H'
   try clear c1
   obtain ⟨x3_1, x4_1, rfl, HA, HK1, HO_3, HB⟩ := hrel
   cases gk with
   | zero => exact absurd HA.out (by simp [tangramref11_Copy.l0])
   | succ k1 =>
     have H := HA.out
     clear HA
     simp only [tangramref11_Copy.l0] at H
     by_cases c2 : x4_1 < (l0.length : Int)
     · rw [if_pos c2] at H
       have c2b0 : decide (x4_1 < (l0.length : Int)) = true := decide_eq_true c2
       clear c2
       obtain ⟨y159, hy159⟩ : ∃ y_ : List Int, y_ = (([] : List Int)) := ⟨_, rfl⟩
       replace H : (if 0 ≤ x4_1 then (if y159.length + (rd_L5 l0 x4_1).length < 17592186044416 then (if x3_1.length < 5864062014805 then (tangramref11_Copy.l0 k1 l0 (x3_1 ++ [(y159 ++ (rd_L5 l0 x4_1))]) (wrap64 (x4_1 + 1))) else (none)) else (none)) else (none)) = some r := by first | (rw [hy159]; with_reducible exact H) | (have H2_ := (Option.bind_some _ _).symm.trans H; rw [hy159]; with_reducible exact H2_) | (have H2_ := (Option.bind_some _ _).symm.trans H; with_reducible exact H2_) | with_reducible exact H | (rw [hy159]; exact H) | exact H
       have Ny159 := Aside0.mk hy159
       clear hy159
       by_cases c3 : 0 ≤ x4_1
       · rw [if_pos c3] at H
         have c3b0 : decide (0 ≤ x4_1) = true := decide_eq_true c3
         clear c3
         by_cases c4 : y159.length + (rd_L5 l0 x4_1).length < 17592186044416
         · rw [if_pos c4] at H
           have LMc4 := Aside0.mk c4
           clear c4
           obtain ⟨y163, hy163⟩ : ∃ y_ : List Int, y_ = (y159 ++ (rd_L5 l0 x4_1)) := ⟨_, rfl⟩
           replace H : (if x3_1.length < 5864062014805 then (tangramref11_Copy.l0 k1 l0 (x3_1 ++ [y163]) (wrap64 (x4_1 + 1))) else (none)) = some r := by first | (rw [hy163]; with_reducible exact H) | (have H2_ := (Option.bind_some _ _).symm.trans H; rw [hy163]; with_reducible exact H2_) | (have H2_ := (Option.bind_some _ _).symm.trans H; with_reducible exact H2_) | with_reducible exact H | (rw [hy163]; exact H) | exact H
           have Ny163 := Aside0.mk hy163
           clear hy163
           by_cases c5 : x3_1.length < 5864062014805
           · rw [if_pos c5] at H
             have LMc5 := Aside0.mk c5
             clear c5
             obtain ⟨y166, hy166⟩ : ∃ y_ : List (List Int), y_ = (x3_1 ++ [y163]) := ⟨_, rfl⟩
             replace H : (tangramref11_Copy.l0 k1 l0 y166 (wrap64 (x4_1 + 1))) = some r := by first | (rw [hy166]; with_reducible exact H) | (have H2_ := (Option.bind_some _ _).symm.trans H; rw [hy166]; with_reducible exact H2_) | (have H2_ := (Option.bind_some _ _).symm.trans H; with_reducible exact H2_) | with_reducible exact H | (rw [hy166]; exact H) | exact H
             have Ny166 := Aside0.mk hy166
             clear hy166
             have H' := Aside0.mk H
             clear H
             go_wp2_with (first | ((with_reducible refine gate_dst (N := 12) rfl ?_); refine Kd.R_lit (Kd.int .i64) _ 3 ?hg (N := 12) ?hd (xs := ([] : List Int)) (inner := []) (ok := fun _ => True) (okp := fun _ => True) ?hr ?hp (fun _ hk => hk) trivial (Below.refl _ _) (Nat.le_refl _) (by simp) ?_; (case hd => rfl); (case hg => rfl); (case hr => first | (go_simp; done) | (go_simp; rfl)); (case hp => exact (Reps.none _ _)); intro v160 w6 ho7 hb hg_ hnew_; clear hg_ hnew_; (first | rw [← Ny159.out] at ho7 | (simp only [Int.reduceToNat] at ho7; rw [← Ny159.out] at ho7)); have n0_ := Aside0.mk (Kd.S_elder' (by (with_reducible repeat (first | apply Kd.S_alloc | apply Kd.S_drewN | apply Kd.S_drew)); exact HO_3.out) (Kd.R_base ho7) hb); have n1_ := Aside0.mk (Kd.R_lower ho7 (below_size (by repeat (first | (with_reducible first | exact HB.out | apply below_alloc | apply pw_below_drewN | apply below_drew1) | exact HB.out)))); have n2_ := Aside0.mk (below_step (by repeat (first | (with_reducible first | exact HB.out | apply below_alloc | apply pw_below_drewN | apply below_drew1) | exact HB.out)) hb); clear HO_3; clear HB; have HO_3 := n0_; have HO161 := n1_; have HB := n2_; clear n0_ n1_ n2_; clear hb ho7; have p162 : 0 ≤ (x4_1 : Int) := of_decide_eq_true (by first | (with_reducible assumption) | assumption); have q162 : x4_1 < (l0.length : Int) := of_decide_eq_true (by first | (with_reducible assumption) | assumption); obtain ⟨ad162, A162_0, c162_0, e162, hx162_0, hl162_0, hi162_0⟩ := at_L5 HR0.out x4_1 p162 q162; cases e162; replace hx162_0 := (HB.out.cell (World.block_lt_of_cell? w _ hx162_0)).trans hx162_0; have HR162_0 := Aside0.mk hi162_0; have HC162_0 := Aside0.mk hl162_0; clear hi162_0 hl162_0; replace p162 := eq_true p162; replace q162 := eq_true q162) | ((with_reducible refine gate_builtin (b := .append) (xs := #[.tmp 12, .tmp 16]) rfl ?_); at_builtin; refine Kd.R_append_rows (Kd.int .i64) (w0 := w) w.heap.size rfl (.tmp 12) (.tmp 16) 36 3 (.int .i64 0) 8 rfl Try.underlying36 info3 rfl (by decide) (by omega) v160 y159 (rd_L5 l0 x4_1) _ _ _ (fun _ => True) (fun _ => False) rfl rfl ?aO ?aR (fun _ _ h => h) (fun _ h => h.elim) ?aF ?aB ?aS ?aL ?_; (case aR => repeat (first | exact (Kd.C_below HR162_0.out HB.out) | (with_reducible refine Kd.C_alloc ?_ _) | (with_reducible refine Kd.C_drewN ?_ _) | (with_reducible refine Kd.C_drew ?_))); (case aB => exact (by repeat (first | (with_reducible first | exact HB.out | apply below_alloc | apply pw_below_drewN | apply below_drew1) | exact HB.out))); (case aF => exact (fun _ _ => trivial)); (case aO => exact (by (with_reducible repeat (first | apply Kd.R_alloc | apply Kd.R_drewN | apply Kd.R_drew)); exact HO161.out)); (case aS => exact (below_size (by repeat (first | (with_reducible first | exact HB.out | apply below_alloc | apply pw_below_drewN | apply below_drew1) | exact HB.out)))); (case aL => have := LMc4.out; omega); intro v164 w8 ho hb hg hat; rw [← Ny163.out] at ho; have n0_ := Aside0.mk (Kd.S_after (ok := (fun _ => True)) (by (with_reducible repeat (first | apply Kd.S_alloc | apply Kd.S_drewN | apply Kd.S_drew)); exact HO_3.out) hg hat); have n1_ := Aside0.mk (hb); have n2_ := Aside0.mk (ho); clear HO_3; clear HB; clear HO161; have HO_3 := n0_; have HB := n1_; have HO165 := n2_; clear n0_ n1_ n2_; clear ho hb hg hat; obtain ⟨Ao10, co10, eo10⟩ := Kd.R_slice HO165.out; subst eo10) | ((with_reducible refine gate_builtin (b := .append) (xs := #[.tmp 11, .tmp 18]) rfl ?_); at_builtin; refine Kd.S_append (Kd.slice 3 (Kd.int .i64)) (w0 := w) w.heap.size rfl (.tmp 11) (.tmp 18) 26 36 (.slice none 0 0) 24 rfl Try.underlying26 info36 rfl (by decide) (by omega) u3 x3_1 y163 [.slice Ao10 y163.length co10] (fun _ => True) (fun k_ => some k_ = (.slice Ao10 y163.length co10 : Value).ownBlock) rfl rfl ?aP (fun k_ hk_ => ((Kd.R_mono (ok' := fun k_ => ((fun _ => True)) k_ ∧ some k_ ≠ (u3 : Value).ownBlock) (Kd.R_apart' (HO165.out) (Kd.S_typed HO_3.out) (by decide)) (fun k_ hk => ⟨trivial, hk.2⟩))).1 k_ hk_.symm) ?aF ?aO ?aB ?aS ?aL ?_; (case aP => exact Kd.M_row (Kd.R_mono (Kd.R_tight rfl (Kd.R_mono (ok' := fun k_ => ((fun _ => True)) k_ ∧ some k_ ≠ (u3 : Value).ownBlock) (Kd.R_apart' (HO165.out) (Kd.S_typed HO_3.out) (by decide)) (fun k_ hk => ⟨trivial, hk.2⟩))) (fun _ h_ => h_))); (case aB => exact (by repeat (first | (with_reducible first | exact HB.out | apply below_alloc | apply pw_below_drewN | apply below_drew1) | exact HB.out))); (case aF => exact (fun _ _ => trivial)); (case aO => exact (by (with_reducible repeat (first | apply Kd.S_alloc | apply Kd.S_drewN | apply Kd.S_drew)); exact Kd.S_mono HO_3.out (fun k_ hk => ⟨trivial, fun e_ => hk.2 e_⟩))); (case aS => exact (below_size (by repeat (first | (with_reducible first | exact HB.out | apply below_alloc | apply pw_below_drewN | apply below_drew1) | exact HB.out)))); (case aL => have := LMc5.out; omega); intro v167 w9 ho hb hg hat; rw [← Ny166.out] at ho; have n0_ := Aside0.mk (hb); have n1_ := Aside0.mk (ho); clear HB; clear HO_3; clear HO165; have HB := n0_; have HO168 := n1_; clear n0_ n1_; clear ho hb hg hat))
             go_roundg k1
             case measure => have := HK1.out; omega
             case rel => exact ⟨(y166), (wrap64 (x4_1 + 1)), (by first | rfl | (simp; done) | (simp [*]; done)), H', ⟨by have := HK1.out; omega⟩, ⟨by (with_reducible repeat (first | apply Kd.S_alloc | apply Kd.S_drewN | apply Kd.S_drew)); exact HO168.out⟩, ⟨by repeat (first | (with_reducible first | exact HB.out | apply below_alloc | apply pw_below_drewN | apply below_drew1) | exact HB.out)⟩⟩
           · rw [if_neg c5] at H
             exact absurd H (by simp)
         · rw [if_neg c4] at H
           exact absurd H (by simp)
       · rw [if_neg c3] at H
         exact absurd H (by simp)
     · rw [if_neg c2] at H
       have c2b0 : decide (x4_1 < (l0.length : Int)) = false := decide_eq_false c2
       clear c2
       obtain rfl := Option.some.inj H
       go_wp2
       go_ret
       exact ⟨_, by first | rfl | (simp [errW_none, errW_some] <;> rfl) | (simp [*, errW_none, errW_some] <;> rfl), by (with_reducible repeat (first | apply Kd.S_alloc | apply Kd.S_drewN | apply Kd.S_drew)); exact HO_3.out, by repeat (first | (with_reducible first | exact HB.out | apply below_alloc | apply pw_below_drewN | apply below_drew1) | exact HB.out)⟩
end Go.Proofs.Ytmikcfddipldnaa.GAll
namespace Go.Proofs.Ytmikcfddipldnaa.Rot
open Go.RowKit Go.Proofs.YtmikcfddipldnaaW.PrintWords Go.Proofs.YtmikcfddipldnaaW.PrintLast Go.Proofs.YtmikcfddipldnaaW.PrintMore Go.Proofs.Ytmikcfddipldnaa.GAll Go.Proofs.Ytmikcfddipldnaa.Mem
set_option linter.unusedVariables false
set_option linter.unusedSimpArgs false
theorem w1 {i : Nat} (h : i < 9223372036854775807) : wrap64 ((i : Int) + 1) = ((i + 1 : Nat) : Int) := by rw [IntWalk.wrap64_in _ (by omega)]; omega
theorem copy3_ev (n : Int) (l : List Ed) (hl : l.length ≤ 8796093022208) : Ev (fun k => tangramref03_Copy.f k n l) (n, l) := by
 have loop : ∀ (d i : Nat), i + d = l.length → Ev (fun k => tangramref03_Copy.l0 k (l.take i) (i : Int) n l) (n, l) := by
   intro d
   induction d with
   | zero =>
     intro i hi
     refine Ev.step (f := fun _ => some (n, l)) (fun k => ?_) (Ev.now _)
     simp only [tangramref03_Copy.l0]
     rw [if_neg (by omega), List.take_of_length_le (by omega)]
   | succ d ih =>
     intro i hi
     have hx : i < l.length := by omega
     refine Ev.step (fun k => ?_) (ih (i + 1) (by omega))
     simp only [tangramref03_Copy.l0]
     have e : PureV.rdE l (i : Nat) = l[i] := by
       show l.getD ((i : Int).toNat) _ = _
       rw [Int.toNat_natCast, List.getD_eq_getElem?_getD, List.getElem?_eq_getElem hx]
       rfl
     rw [if_pos (by omega), if_pos (by omega), if_pos (by rw [List.length_take]; omega), w1 (by omega), List.take_succ_eq_append_getElem hx]
     change tangramref03_Copy.l0 k (l.take i ++ [⟨(PureV.rdE l (i : Nat)).f0, (PureV.rdE l (i : Nat)).f1⟩]) _ n l = _
     rw [e]
 exact loop l.length 0 (by omega)
theorem copy11_ev (r : List (List Int)) (hs : Small r) : Ev (fun k => tangramref11_Copy.f k r) r := by
 have h1 := hs.1
 have loop : ∀ (d i : Nat), i + d = r.length → Ev (fun k => tangramref11_Copy.l0 k r (r.take i) (i : Int)) r := by
   intro d
   induction d with
   | zero =>
     intro i hi
     refine Ev.step (f := fun _ => some r) (fun k => ?_) (Ev.now _)
     simp only [tangramref11_Copy.l0]
     rw [if_neg (by omega), List.take_of_length_le (by omega)]
   | succ d ih =>
     intro i hi
     have hx : i < r.length := by omega
     have h2 := hs.2 _ (List.getElem_mem hx)
     refine Ev.step (fun k => ?_) (ih (i + 1) (by omega))
     simp only [tangramref11_Copy.l0]
     have e : r.getD ((i : Int).toNat) [] = r[i] := by rw [Int.toNat_natCast, List.getD_eq_getElem?_getD, List.getElem?_eq_getElem hx]; rfl
     rw [if_pos (by omega), Option.bind_some, if_pos (by omega)]
     change (if ([] : List Int).length + (r.getD ((i : Int).toNat) []).length < _ then (if _ then tangramref11_Copy.l0 k r (r.take i ++ [[] ++ r.getD ((i : Int).toNat) []]) _ else none) else none) = _
     rw [e, List.nil_append, if_pos (by simp only [List.length_nil]; omega), if_pos (by rw [List.length_take]; omega), w1 (by omega), List.take_succ_eq_append_getElem hx]
 exact loop r.length 0 (by omega)
end Go.Proofs.Ytmikcfddipldnaa.Rot
namespace Go.Proofs.Ytmikcfddipldnaa.Open
open Go.RowKit Go.Proofs.YtmikcfddipldnaaW.PrintWords Go.Proofs.YtmikcfddipldnaaW.PrintLast Go.Proofs.YtmikcfddipldnaaW.PrintMore Go.ChangeShapes Go.WideShapes Go.Deep
set_option linter.unusedVariables false
set_option linter.unusedSimpArgs false
def I64 (n : Int) : Prop := -9223372036854775808 ≤ n ∧ n ≤ 9223372036854775807
def Opens {α : Type} (P : Program) (t : TypeId) (d : Kd α) (good : α → Prop) : Prop :=
 ∀ {H : Type} (enc : TypeId × Value → H) (w : World) (fuel : Nat) (cs : List Value) (x : DataW H × List MemPlace),
   DataW.trod enc P w 0 (fun _ => true) true fuel t cs = some x → (x.1.weights P t).all (· ≤ reachBytes) = true → ∃ v, d.K w v cs ∧ good v
section
variable {P : Program} {α β : Type}
theorem opens_int {t : TypeId} (ht : P.underlying t = some (.int .i64)) : Opens P t (Kd.int .i64) I64 := by
 intro H enc w fuel cs x h _
 obtain ⟨n, rfl, _, hw⟩ := DataW.trod_int ht h
 refine ⟨n, rfl, ?_⟩
 have hmin : IntKind.i64.min = -9223372036854775808 := rfl
 have hmax : IntKind.i64.max = 9223372036854775807 := rfl
 simp only [Lit.wf, Bool.and_eq_true, decide_eq_true_eq] at hw
 unfold I64; omega
theorem weightsAll_mem {H : Type} {e : TypeId} {l : List (DataW H)} (h : (DataW.weightsAll P e l).all (· ≤ reachBytes) = true) {d : DataW H} (hd : d ∈ l) : (d.weights P e).all (· ≤ reachBytes) = true := by
 induction l with
 | nil => cases hd
 | cons a l ih =>
   unfold DataW.weightsAll at h
   rw [List.all_append, Bool.and_eq_true] at h
   rcases List.mem_cons.1 hd with rfl | hd
   · exact h.1
   · exact ih h.2 hd
theorem opens_slice {t e : TypeId} {d : Kd α} {good : α → Prop} {B : Nat} (ht : P.underlying t = some (.slice e)) (hc : P.cellsOf e = d.sz) (hB : P.bytesOf e = B) (ho : Opens P e d good) (dflt : α) :
   Opens P t (Kd.slice e d) (fun xs => xs.length * B ≤ 140737488351232 ∧ ∀ x ∈ xs, good x) := by
 intro H enc w fuel cs x h hwt
 rcases open_slice ht h with ⟨rfl, rfl⟩ | ⟨a, len, cap, m, n, D, Pl, rfl, hb, hl, hm, hmm, rfl, hx⟩
 · exact ⟨[], ⟨none, 0, rfl, Nat.le_refl _, rfl, by simp, fun h => absurd h (by simp)⟩, by simp, by simp⟩
 · simp only [if_true] at hmm
   subst hmm
   unfold DataW.weights at hwt
   rw [ht] at hwt
   simp only [List.all_cons, List.all_append, Bool.and_eq_true, decide_eq_true_eq, List.length_map, List.length_range, hB] at hwt
   obtain ⟨hw1, hw2, _⟩ := hwt
   have each : ∀ i, i < len → ∃ v : α × List Value, v.2.length = d.sz ∧ d.K w v.1 v.2 ∧ good v.1 ∧ ∀ k u, v.2[k]? = some u → w.cell? (a.add (i * d.sz + k)) = some u := by
     intro i hi
     obtain ⟨cs', h1, h2⟩ := hx i (by omega)
     rw [hc] at h1
     obtain ⟨_, hlen, hcell⟩ := World.cells?_some h1
     obtain ⟨v, hv, hg⟩ := ho enc w n cs' _ h2 (weightsAll_mem hw2 (List.mem_map.2 ⟨i, List.mem_range.2 hi, rfl⟩))
     refine ⟨(v, cs'), hlen, hv, hg, fun k u hk => ?_⟩
     have hk2 : k < d.sz := by
       have hk3 : k < cs'.length := (List.getElem?_eq_some_iff.1 hk).1
       omega
     have := hcell k hk2
     rw [Go.Deep.add_add] at this
     rw [this]; exact hk
   haveI : Inhabited (α × List Value) := ⟨(dflt, [])⟩
   obtain ⟨q, hq⟩ := choose_lt each
   have hlen : ((List.range len).map fun i => (q i).1).length = len := by simp
   have hget : ∀ j p, ((List.range len).map fun i => (q i).1)[j]? = some p → j < len ∧ p = (q j).1 := by
     intro j p hj
     rw [List.getElem?_map] at hj
     by_cases hjl : j < len
     · rw [List.getElem?_range hjl] at hj
       exact ⟨hjl, by simpa using hj.symm⟩
     · rw [List.getElem?_eq_none (by simp; omega)] at hj; simp at hj
   refine ⟨(List.range len).map fun i => (q i).1, ⟨some a, m, by rw [hlen], by rw [hlen]; exact hl, by rw [hlen], ?_, fun _ => ⟨a, rfl, fun j p hj => ?_⟩⟩, ?_, ?_⟩
   · rw [hlen]; unfold maxLen at hm; omega
   · obtain ⟨hjl, rfl⟩ := hget j p hj
     exact ⟨(q j).2, (hq j hjl).1, (hq j hjl).2.1, (hq j hjl).2.2.2⟩
   · rw [hlen]
     have h5 : len * B ≤ (len + (m - len)) * B := Nat.mul_le_mul_right _ (by omega)
     have h6 : reachBytes = 140737488351232 := rfl
     omega
   · intro v hv
     obtain ⟨i, hi, rfl⟩ := List.mem_map.1 hv
     exact (hq i (List.mem_range.1 hi)).2.2.1
theorem open_arg {H : Type} {enc : TypeId × Value → H} {w : World} {t : TypeId} {d : Kd α} {good : α → Prop} {v : Value} {dd : DataW H} {ps : List MemPlace} (ho : Opens P t d good) (h : DataW.Trod enc P w 0 (fun _ => true) true t v dd ps)
   (hw : (dd.weights P t).all (· ≤ reachBytes) = true) : ∃ x, d.K w x v.cells.toList ∧ good x := by
 obtain ⟨fuel, hf⟩ := h
 exact ho enc w fuel _ _ hf hw
theorem weight_at {H : Type} {ts : List TypeId} {ds : List (DataW H)} (h : (DataW.weightsEach P ts ds).all (· ≤ reachBytes) = true) : ∀ {j : Nat} {t : TypeId} {d : DataW H}, ts[j]? = some t → ds[j]? = some d → (d.weights P t).all (· ≤ reachBytes) = true := by
 induction ts generalizing ds with
 | nil => intro j t d ht; simp at ht
 | cons a ts ih =>
   cases ds with
   | nil => intro j t d _ hd; simp at hd
   | cons b ds =>
     unfold DataW.weightsEach at h
     rw [List.all_append, Bool.and_eq_true] at h
     intro j t d ht hd
     cases j with
     | zero =>
       obtain rfl : a = t := by simpa using ht
       obtain rfl : b = d := by simpa using hd
       exact h.1
     | succ j => exact ih h.2 (by simpa using ht) (by simpa using hd)
theorem of_slice {w : World} {e : Nat} {d : Kd α} {xs : List α} {A : Option Addr} {n c : Nat} (h : (Kd.slice e d).K w xs [.slice A n c]) : n = xs.length ∧ xs.length ≤ c ∧ d.C w A xs.length xs := by
 obtain ⟨A', c', he, hl, hc⟩ := h
 simp only [List.cons.injEq, Value.slice.injEq, and_true] at he
 obtain ⟨rfl, rfl, rfl⟩ := he
 exact ⟨rfl, hl, hc⟩
end
end Go.Proofs.Ytmikcfddipldnaa.Open
namespace Go.Proofs.Ytmikcfddipldnaa.GAll
open Go.RowKit Go.Proofs.YtmikcfddipldnaaW.PrintWords Go.Proofs.YtmikcfddipldnaaW.PrintLast Go.Proofs.YtmikcfddipldnaaW.PrintMore
attribute [local go_sem] max2_int min2_int max_two min_two max_three min_three max_four min_four   -- for this text's walks alone
set_option linter.unusedVariables false
set_option linter.unusedSimpArgs false
mutual
def faces_Of.l0 : Nat → List Int → List Bool → List (List Int) → Int → Int → Option ((List (List Int)) × Int)
 | 0, _, _, _, _, _ => none
 | k + 1, x6, x8, x9, x26, x27 => if x27 < x26 then (faces_Of.l1 k x6 x8 x9 ([] : List Int) x27 x26 x27) else (some (x9, 0))
def faces_Of.l1 : Nat → List Int → List Bool → List (List Int) → List Int → Int → Int → Int → Option ((List (List Int)) × Int)
 | 0, _, _, _, _, _, _, _ => none
 | k + 1, x6, x8, x9, x11, x12, x26, x27 => if 0 ≤ x12 then (if x12 < (x8.length : Int) then (if rdOf false x8 x12 = true then (if (x11.length : Int) > 0 then (if x9.length < 5864062014805 then (faces_Of.l0 k x6 x8 (x9 ++ [x11]) x26 (wrap64 (x27 + 1))) else (none)) else (faces_Of.l0 k x6 x8 x9 x26 (wrap64 (x27 + 1)))) else (if x11.length < 17592186044416 then (if 0 ≤ (Go.bits .xor .i64 x12 1) then (if (Go.bits .xor .i64 x12 1) < (x6.length : Int) then (faces_Of.l1 k x6 (x8.set (x12 : Int).toNat true) x9 (x11 ++ [x12]) (rd x6 (Go.bits .xor .i64 x12 1)) x26 x27) else (none)) else (none)) else (none))) else (none)) else (none)
end
def faces_Of.f (k : Nat) (a0_0 : Int) (l0_1 : List (S56)) (l1 : List (List Int)) : Option ((List (List Int)) × Int) := (rot_Next.f k a0_0 l0_1 l1).bind fun bt113 => (if bt113.2 = 0 then (if 0 ≤ (bt113.1.length : Int) then (if ((bt113.1.length : Int) : Int).toNat ≤ 281474976710656 then (faces_Of.l0 k bt113.1 (List.replicate ((bt113.1.length : Int) : Int).toNat false) ([] : List (List Int)) (bt113.1.length : Int) 0) else (none)) else (none)) else (some (([] : List (List Int)), bt113.2)))
theorem faces_Of.mono_l : ∀ k, (∀ y0 y1 y2 y3 y4, LeO (faces_Of.l0 k y0 y1 y2 y3 y4) (faces_Of.l0 (k + 1) y0 y1 y2 y3 y4)) ∧ (∀ y0 y1 y2 y3 y4 y5 y6, LeO (faces_Of.l1 k y0 y1 y2 y3 y4 y5 y6) (faces_Of.l1 (k + 1) y0 y1 y2 y3 y4 y5 y6))
 | 0 => ⟨fun _ _ _ _ _ r h => by simp [faces_Of.l0] at h, fun _ _ _ _ _ _ _ r h => by simp [faces_Of.l1] at h⟩
 | k + 1 => by
   obtain ⟨ih0, ih1⟩ := faces_Of.mono_l k
   refine ⟨?_, ?_⟩
   · intro y0 y1 y2 y3 y4
     unfold faces_Of.l0
     repeat' first
     | (with_reducible exact ih0 _ _ _ _ _)
     | (with_reducible exact ih1 _ _ _ _ _ _ _)
     | (with_reducible exact rot_Next.mono _ _ _ _)
     | (with_reducible exact LeO.refl _)
     | (with_reducible exact LeO.none _)
     | (with_reducible refine LeO.ite ?_ ?_)
     | (with_reducible refine LeO.bind ?_ (fun _ => ?_))
     | exact ih0 _ _ _ _ _
     | exact ih1 _ _ _ _ _ _ _
     | exact rot_Next.mono _ _ _ _
     | exact LeO.none _
     | refine LeO.ite ?_ ?_
     | refine LeO.bind ?_ (fun _ => ?_)
   · intro y0 y1 y2 y3 y4 y5 y6
     unfold faces_Of.l1
     repeat' first
     | (with_reducible exact ih0 _ _ _ _ _)
     | (with_reducible exact ih1 _ _ _ _ _ _ _)
     | (with_reducible exact rot_Next.mono _ _ _ _)
     | (with_reducible exact LeO.refl _)
     | (with_reducible exact LeO.none _)
     | (with_reducible refine LeO.ite ?_ ?_)
     | (with_reducible refine LeO.bind ?_ (fun _ => ?_))
     | exact ih0 _ _ _ _ _
     | exact ih1 _ _ _ _ _ _ _
     | exact rot_Next.mono _ _ _ _
     | exact LeO.none _
     | refine LeO.ite ?_ ?_
     | refine LeO.bind ?_ (fun _ => ?_)
theorem faces_Of.mono : ∀ a0 a1 a2 k, LeO (faces_Of.f k a0 a1 a2) (faces_Of.f (k + 1) a0 a1 a2) := by
 intro a0 a1 a2 k
 obtain ⟨ih0, ih1⟩ := faces_Of.mono_l k
 unfold faces_Of.f
 repeat' first
     | (with_reducible exact ih0 _ _ _ _ _)
     | (with_reducible exact ih1 _ _ _ _ _ _ _)
     | (with_reducible exact rot_Next.mono _ _ _ _)
     | (with_reducible exact LeO.refl _)
     | (with_reducible exact LeO.none _)
     | (with_reducible refine LeO.ite ?_ ?_)
     | (with_reducible refine LeO.bind ?_ (fun _ => ?_))
     | exact ih0 _ _ _ _ _
     | exact ih1 _ _ _ _ _ _ _
     | exact rot_Next.mono _ _ _ _
     | exact LeO.none _
     | refine LeO.ite ?_ ?_
     | refine LeO.bind ?_ (fun _ => ?_)
set_option maxHeartbeats 8000000 in
set_option maxRecDepth 100000 in
theorem faces_Of.calls (k : Nat) (a0_0 : Int) (A0_1 : Option Addr) (c0_1 : Nat) (l0_1 : List (S56)) (A1 : Option Addr) (c1 : Nat) (l1 : List (List Int)) (r1 : List (List Int)) (r2 : Int) (w : World) (hr0_1 : Kd.C k56 w A0_1 l0_1.length l0_1) (hc0_1 : l0_1.length ≤ c0_1) (hr1 : Kd.C (Kd.slice 3 (Kd.int .i64)) w A1 l1.length l1) (hc1 : l1.length ≤ c1) (h : faces_Of.f k a0_0 l0_1 l1 = some (r1, r2)) :
   Calls Try.prog 10 #[.agg #[.int .i64 a0_0, .slice A0_1 l0_1.length c0_1], .slice A1 l1.length c1] w fun e w' => ∃ v0_ : Value, e = .returned (.tuple #[v0_, .int .i64 r2]) ∧ Kd.S (Kd.slice 3 (Kd.int .i64)) 36 w' w.heap.size (fun _ => True) v0_ r1 ∧ Below w.heap.size w w' := by
 have hu24 := Try.underlying24
 have HR0_1 := Aside0.mk hr0_1
 have HC0_1 := Aside0.mk hc0_1
 clear hr0_1 hc0_1
 have HR1 := Aside0.mk hr1
 have HC1 := Aside0.mk hc1
 clear hr1 hc1
 have HB := Aside0.mk (Below.refl w.heap.size w)
 have H : ((rot_Next.f k a0_0 l0_1 l1).bind fun bt113 => (if bt113.2 = 0 then (if 0 ≤ (bt113.1.length : Int) then (if ((bt113.1.length : Int) : Int).toNat ≤ 281474976710656 then (faces_Of.l0 k bt113.1 (List.replicate ((bt113.1.length : Int) : Int).toNat false) ([] : List (List Int)) (bt113.1.length : Int) 0) else (none)) else (none)) else (some (([] : List (List Int)), bt113.2)))) = some (r1, r2) := h
 clear h
 replace H := Option.bind_eq_some_iff.mp H
 obtain ⟨⟨t113, t116⟩, A30, H⟩ := H
 replace H : (if t116 = 0 then (if 0 ≤ (t113.length : Int) then (if ((t113.length : Int) : Int).toNat ≤ 281474976710656 then (faces_Of.l0 k t113 (List.replicate ((t113.length : Int) : Int).toNat false) ([] : List (List Int)) (t113.length : Int) 0) else (none)) else (none)) else (some (([] : List (List Int)), t116))) = some (r1, r2) := H
 have A3 := Aside0.mk A30
 clear A30
 by_cases c4 : t116 = 0
 · rw [if_pos c4] at H
   have c4b0 : (t116 == 0) = true := beq_iff_eq.mpr c4
   have c4b1 : (t116 != 0) = false := bne_eq_false_iff_eq.mpr c4
   clear c4
   by_cases c5 : 0 ≤ (t113.length : Int)
   · rw [if_pos c5] at H
     have c5b0 := eq_true c5
     have c5b1 : decide (0 ≤ (t113.length : Int)) = true := decide_eq_true c5
     clear c5
     by_cases c6 : ((t113.length : Int) : Int).toNat ≤ 281474976710656
     · rw [if_pos c6] at H
       have c6b0 := eq_true c6
       have c6b1 : decide (((t113.length : Int) : Int).toNat ≤ 281474976710656) = true := decide_eq_true c6
       clear c6
       obtain ⟨y117, hy117⟩ : ∃ y_ : List Bool, y_ = (List.replicate ((t113.length : Int) : Int).toNat false) := ⟨_, rfl⟩
       replace H : (faces_Of.l0 k t113 y117 ([] : List (List Int)) (t113.length : Int) 0) = some (r1, r2) := by first | (rw [hy117]; with_reducible exact H) | (have H2_ := (Option.bind_some _ _).symm.trans H; rw [hy117]; with_reducible exact H2_) | (have H2_ := (Option.bind_some _ _).symm.trans H; with_reducible exact H2_) | with_reducible exact H | (rw [hy117]; exact H) | exact H
       have Ny117 := Aside0.mk hy117
       clear hy117
       have H' := Aside0.mk H
       clear H
       go_enter Try.func10, Try.ntmps10
       go_wp2_with (first | ((with_reducible refine gate_dst (N := 2) rfl ?_); refine box_event ?hg (N := 2) ?hd (cs := #[.int .i64 a0_0, .slice A0_1 l0_1.length c0_1]) (t := 24) ?hr ?_; (case hd => rfl); (case hg => rfl); (case hr => first | (go_simp; done) | (go_simp; rfl)); intro gb112 hg w7 hbox hb; have n0_ := Aside0.mk (below_step (by repeat (first | (with_reducible first | exact HB.out | apply below_alloc | apply pw_below_drewN | apply below_drew1) | exact HB.out)) hb); have n1_ := Aside0.mk (hbox); have n2_ := Aside0.mk ((by rw [hg]; exact (below_size (by repeat (first | (with_reducible first | exact HB.out | apply below_alloc | apply pw_below_drewN | apply below_drew1) | exact HB.out))) : w.heap.size ≤ gb112)); have n3_ := Aside0.mk ((by rw [hg]; exact (below_size (by repeat (first | (with_reducible first | exact HB.out | apply below_alloc | apply pw_below_drewN | apply below_drew1) | exact HB.out))) : w.heap.size ≤ gb112)); clear HB; have HB := n0_; have BK112 := n1_; have GW112 := n2_; have GE112 := n3_; clear n0_ n1_ n2_ n3_; clear hb hbox hg; have hcz8_0 : w7.cell? ⟨gb112, 0, none⟩ = some (.int .i64 a0_0) := (blk_cell BK112.out 0).trans rfl; have hcz8_1 : w7.cell? ⟨gb112, 1, none⟩ = some (.slice A0_1 l0_1.length c0_1) := (blk_cell BK112.out 1).trans rfl; have hfz8_0 := blk_frozen BK112.out 0; have hfz8_1 := blk_frozen BK112.out 1) | ((with_reducible refine gate_callee (f := 22) rfl ?_); refine goesL_ (some 16) rfl rfl Try.func22 (by kernel_rfl) rfl #[.agg #[.int .i64 a0_0, .slice A0_1 l0_1.length c0_1], .slice A1 l1.length c1] rfl (by (try simp only [List.map_toArray, List.map_cons, List.map_nil]); first | done | rfl | (simp only [List.length_drop, List.length_take]; rfl)) ?_; (with_reducible refine (rot_Next.calls k a0_0 _ _ l0_1 _ _ l1 t113 t116 _ ?side1 ?side2 ?side3 ?side4 A3.out).mono ?_); (case side1 => repeat (first | exact (Kd.C_below HR0_1.out HB.out) | (with_reducible refine Kd.C_alloc ?_ _) | (with_reducible refine Kd.C_drewN ?_ _) | (with_reducible refine Kd.C_drew ?_))); (case side2 => exact HC0_1.out); (case side3 => repeat (first | exact (Kd.C_below HR1.out HB.out) | (with_reducible refine Kd.C_alloc ?_ _) | (with_reducible refine Kd.C_drewN ?_ _) | (with_reducible refine Kd.C_drew ?_))); (case side4 => exact HC1.out); rintro e w9 ⟨v114, rfl, ho0, hb⟩; refine ⟨_, rfl, ?_⟩; have n0_ := Aside0.mk (Kd.R_lower ho0 (below_size (by repeat (first | (with_reducible first | exact HB.out | apply below_alloc | apply pw_below_drewN | apply below_drew1 | refine below_set ?_ GE112.out) | exact HB.out)))); have n1_ := Aside0.mk (blk_below (g := gb112) (o := .cells #[.int .i64 a0_0, .slice A0_1 l0_1.length c0_1] 24 (0, 0)) (by (with_reducible repeat (first | refine blk_drewN ?_ _ | refine blk_drew ?_ | refine blk_alloc ?_ _)); exact BK112.out) hb); have n2_ := Aside0.mk (below_step (by repeat (first | (with_reducible first | exact HB.out | apply below_alloc | apply pw_below_drewN | apply below_drew1 | refine below_set ?_ GE112.out) | exact HB.out)) hb); clear BK112; clear HB; have HO115 := n0_; have BK112 := n1_; have HB := n2_; clear n0_ n1_ n2_; (try clear hb); (try clear hb2); (try clear hk); (try clear hi); (try clear ho0); obtain ⟨Ao10, co10, eo10⟩ := Kd.R_slice HO115.out; subst eo10) | ((with_reducible refine gate_dst (N := 24) rfl ?_); refine Kd.R_make Kd.bool _ 4 rfl (N := 24) rfl 60 _ _ rfl (t113.length : Int) rfl rfl Try.underlying60 (.bool false) 1 info4 rfl (by decide) (by omega) false (ok := fun _ => True) (okp := fun _ => True) rfl (fun _ hk => hk) trivial (of_decide_eq_true (by first | (with_reducible assumption) | assumption)) (Nat.le_trans (Nat.mul_le_mul_right _ (of_decide_eq_true (by first | (with_reducible assumption) | assumption) : (t113.length : Int).toNat ≤ 281474976710656)) (by omega)) (Below.refl _ _) (Nat.le_refl _) ?_; intro v118 w11 ho12 hb hg_ hnew_; clear hg_ hnew_; (first | rw [← Ny117.out] at ho12 | (simp only [Int.reduceToNat] at ho12; rw [← Ny117.out] at ho12)); have n0_ := Aside0.mk (Kd.R_below (by (with_reducible repeat (first | apply Kd.R_alloc | apply Kd.R_drewN | apply Kd.R_drew)); exact HO115.out) hb); have n1_ := Aside0.mk (Kd.R_lower ho12 (below_size (by repeat (first | (with_reducible first | exact HB.out | apply below_alloc | apply pw_below_drewN | apply below_drew1 | refine below_set ?_ GE112.out) | exact HB.out)))); have n2_ := Aside0.mk (blk_below (g := gb112) (o := .cells #[.int .i64 a0_0, .slice A0_1 l0_1.length c0_1] 24 (0, 0)) (by (with_reducible repeat (first | refine blk_drewN ?_ _ | refine blk_drew ?_ | refine blk_alloc ?_ _)); exact BK112.out) hb); have n3_ := Aside0.mk (below_step (by repeat (first | (with_reducible first | exact HB.out | apply below_alloc | apply pw_below_drewN | apply below_drew1 | refine below_set ?_ GE112.out) | exact HB.out)) hb); clear HO115; clear BK112; clear HB; have HO115 := n0_; have HO119 := n1_; have BK112 := n2_; have HB := n3_; clear n0_ n1_ n2_ n3_; clear hb ho12))
       go_loopg [9, 27] k (fun kq v9 v27 w' => ∃ (x8_1 : List Bool) (x9_1 : List (List Int)) (x27_1 : Int), v27 = .int .i64 x27_1 ∧ Aside0 (faces_Of.l0 kq t113 x8_1 x9_1 (t113.length : Int) x27_1 = some (r1, r2)) ∧ Aside0 (kq ≤ k) ∧ Aside0 (Kd.R (Kd.int .i64) 3 w' w.heap.size (fun _ => True) (.slice Ao10 t113.length co10) t113) ∧ Aside0 (Kd.R Kd.bool 4 w' w.heap.size (fun _ => True) v118 x8_1) ∧ Aside0 (Kd.S (Kd.slice 3 (Kd.int .i64)) 36 w' w.heap.size (fun k_ => some k_ ≠ ((.slice Ao10 t113.length co10) : Value).ownBlock) v9 x9_1) ∧ Aside0 (w'.heap[gb112]? = some (.cells #[.int .i64 a0_0, (.slice A0_1 l0_1.length c0_1)] 24 (0, 0))) ∧ Aside0 (Below w.heap.size w w'))
       case atStart => exact ⟨(y117), (([] : List (List Int))), (0), (by first | rfl | (simp; done) | (simp [*]; done)), H', ⟨Nat.le_refl _⟩, ⟨by (with_reducible repeat (first | apply Kd.R_alloc | apply Kd.R_drewN | apply Kd.R_drew)); exact HO115.out⟩, ⟨by (with_reducible repeat (first | apply Kd.R_alloc | apply Kd.R_drewN | apply Kd.R_drew)); exact HO119.out⟩, ⟨by first | exact Kd.S_nil _ _ _ _ _ | exact Kd.N_nil _ _ _ _ _ | exact Kd.V_nil _ _ _ _ _ | exact Kd.Q_nil _ _ _ _ _ | exact Kd.R_nil _ _ _ _ _⟩, ⟨by (with_reducible repeat (first | refine blk_drewN ?_ _ | refine blk_drew ?_ | refine blk_alloc ?_ _)); exact BK112.out⟩, ⟨by repeat (first | (with_reducible first | exact HB.out | apply below_alloc | apply pw_below_drewN | apply below_drew1 | refine below_set ?_ GE112.out) | exact HB.out)⟩⟩
       case round =>
         clear H'
         try clear c1
         try clear c2
         try clear p2
         try clear c4
         try clear c4b0
         try clear c4b1
         try clear c5
         try clear c5b0
         try clear c5b1
         try clear c6
         try clear c6b0
         try clear c6b1
         try clear c10
         try clear hcz8_0
         try clear hcz8_1
         try clear hfz8_0
         try clear hfz8_1
         obtain ⟨x8_1, x9_1, x27_1, rfl, HA, HK1, HO_6, HO_8, HO_9, BK112, HB⟩ := hrel
         cases gk with
         | zero => exact absurd HA.out (by simp [faces_Of.l0])
         | succ k1 =>
           have H := HA.out
           clear HA
           simp only [faces_Of.l0] at H
           by_cases c13 : x27_1 < (t113.length : Int)
           · rw [if_pos c13] at H
             have c13b0 : decide (x27_1 < (t113.length : Int)) = true := decide_eq_true c13
             clear c13
             have H' := Aside0.mk H
             clear H
             go_wp2
             go_loopg [11, 12] k1 (fun kq v11 v12 w' => ∃ (x8_2 : List Bool) (x11_2 : List Int) (x12_2 : Int), v12 = .int .i64 x12_2 ∧ Aside0 (faces_Of.l1 kq t113 x8_2 x9_1 x11_2 x12_2 (t113.length : Int) x27_1 = some (r1, r2)) ∧ Aside0 (kq ≤ k1) ∧ Aside0 (Kd.R (Kd.int .i64) 3 w' w.heap.size (fun k_ => some k_ ≠ (v11 : Value).ownBlock) (.slice Ao10 t113.length co10) t113) ∧ Aside0 (Kd.R Kd.bool 4 w' w.heap.size (fun _ => True) v118 x8_2) ∧ Aside0 (Kd.S (Kd.slice 3 (Kd.int .i64)) 36 w' w.heap.size (fun k_ => some k_ ≠ ((.slice Ao10 t113.length co10) : Value).ownBlock ∧ some k_ ≠ (v11 : Value).ownBlock) u9 x9_1) ∧ Aside0 (Kd.R (Kd.int .i64) 3 w' w.heap.size (fun k_ => some k_ ≠ ((.slice Ao10 t113.length co10) : Value).ownBlock) v11 x11_2) ∧ Aside0 (w'.heap[gb112]? = some (.cells #[.int .i64 a0_0, (.slice A0_1 l0_1.length c0_1)] 24 (0, 0))) ∧ Aside0 (Below w.heap.size w w'))
             case atStart => exact ⟨(x8_1), (([] : List Int)), (x27_1), (by first | rfl | (simp; done) | (simp [*]; done)), H', ⟨Nat.le_refl _⟩, ⟨by (with_reducible repeat (first | apply Kd.R_alloc | apply Kd.R_drewN | apply Kd.R_drew)); exact Kd.R_mono HO_6.out (fun _ hk => (by simp [Value.ownBlock]))⟩, ⟨by (with_reducible repeat (first | apply Kd.R_alloc | apply Kd.R_drewN | apply Kd.R_drew)); exact HO_8.out⟩, ⟨by (with_reducible repeat (first | apply Kd.S_alloc | apply Kd.S_drewN | apply Kd.S_drew)); exact Kd.S_mono HO_9.out (fun _ hk => ⟨hk, (by simp [Value.ownBlock])⟩)⟩, ⟨by first | exact Kd.R_nil _ _ _ _ _ | exact Kd.N_nil _ _ _ _ _ | exact Kd.V_nil _ _ _ _ _ | exact Kd.Q_nil _ _ _ _ _ | exact Kd.S_nil _ _ _ _ _⟩, ⟨by (with_reducible repeat (first | refine blk_drewN ?_ _ | refine blk_drew ?_ | refine blk_alloc ?_ _)); exact BK112.out⟩, ⟨by repeat (first | (with_reducible first | exact HB.out | apply below_alloc | apply pw_below_drewN | apply below_drew1 | refine below_set ?_ GE112.out) | exact HB.out)⟩⟩
             case round =>
               clear H'
               try clear c1
               try clear c2
               try clear p2
               try clear c4
               try clear c4b0
               try clear c4b1
               try clear c5
               try clear c5b0
               try clear c5b1
               try clear c6
               try clear c6b0
               try clear c6b1
               try clear c10
               try clear c13
               try clear c13b0
               try clear hcz8_0
               try clear hcz8_1
               try clear hfz8_0
               try clear hfz8_1
               try clear p2
               obtain ⟨x8_2, x11_2, x12_2, rfl, HA, HK2, HO_6, HO_8, HO_9, HO_11, BK112, HB⟩ := hrel
               cases gk with
               | zero => exact absurd HA.out (by simp [faces_Of.l1])
               | succ k2 =>
                 have H := HA.out
                 clear HA
                 simp only [faces_Of.l1] at H
                 by_cases c14 : 0 ≤ x12_2
                 · rw [if_pos c14] at H
                   have c14b0 : decide (0 ≤ x12_2) = true := decide_eq_true c14
                   clear c14
                   by_cases c15 : x12_2 < (x8_2.length : Int)
                   · rw [if_pos c15] at H
                     have c15b0 : decide (x12_2 < (x8_2.length : Int)) = true := decide_eq_true c15
                     clear c15
                     obtain ⟨bq16, hbq16⟩ : ∃ b_ : Bool, b_ = (rdOf false x8_2 x12_2) := ⟨_, rfl⟩
                     replace H : (if bq16 = true then (if (x11_2.length : Int) > 0 then (if x9_1.length < 5864062014805 then (faces_Of.l0 k2 t113 x8_2 (x9_1 ++ [x11_2]) (t113.length : Int) (wrap64 (x27_1 + 1))) else (none)) else (faces_Of.l0 k2 t113 x8_2 x9_1 (t113.length : Int) (wrap64 (x27_1 + 1)))) else (if x11_2.length < 17592186044416 then (if 0 ≤ (Go.bits .xor .i64 x12_2 1) then (if (Go.bits .xor .i64 x12_2 1) < (t113.length : Int) then (faces_Of.l1 k2 t113 (x8_2.set (x12_2 : Int).toNat true) x9_1 (x11_2 ++ [x12_2]) (rd t113 (Go.bits .xor .i64 x12_2 1)) (t113.length : Int) x27_1) else (none)) else (none)) else (none))) = some (r1, r2) := by rw [← hbq16] at H; exact H
                     have Nbq16 := Aside0.mk hbq16
                     clear hbq16
                     by_cases c17 : bq16 = true
                     · subst c17
                       have H1 : (if (x11_2.length : Int) > 0 then (if x9_1.length < 5864062014805 then (faces_Of.l0 k2 t113 x8_2 (x9_1 ++ [x11_2]) (t113.length : Int) (wrap64 (x27_1 + 1))) else (none)) else (faces_Of.l0 k2 t113 x8_2 x9_1 (t113.length : Int) (wrap64 (x27_1 + 1)))) = some (r1, r2) := by rw [if_pos rfl] at H; exact H
                       clear H
                       have H := H1
                       clear H1
                       by_cases c18 : (x11_2.length : Int) > 0
                       · rw [if_pos c18] at H
                         have c18b0 : decide (0 < (x11_2.length : Int)) = true := decide_eq_true c18
                         have c18b1 : decide (0 < x11_2.length) = true := decide_eq_true (by omega)
                         clear c18
                         by_cases c19 : x9_1.length < 5864062014805
                         · rw [if_pos c19] at H
                           have LMc19 := Aside0.mk c19
                           clear c19
                           obtain ⟨y121, hy121⟩ : ∃ y_ : List (List Int), y_ = (x9_1 ++ [x11_2]) := ⟨_, rfl⟩
                           replace H : (faces_Of.l0 k2 t113 x8_2 y121 (t113.length : Int) (wrap64 (x27_1 + 1))) = some (r1, r2) := by first | (rw [hy121]; with_reducible exact H) | (have H2_ := (Option.bind_some _ _).symm.trans H; rw [hy121]; with_reducible exact H2_) | (have H2_ := (Option.bind_some _ _).symm.trans H; with_reducible exact H2_) | with_reducible exact H | (rw [hy121]; exact H) | exact H
                           have Ny121 := Aside0.mk hy121
                           clear hy121
                           have H' := Aside0.mk H
                           clear H
                           obtain ⟨Ao20, co20, eo20⟩ := Kd.R_slice HO_8.out
                           subst eo20
                           have p120 : 0 ≤ (x12_2 : Int) := of_decide_eq_true (by first | (with_reducible assumption) | assumption)
                           have q120 : x12_2 < (x8_2.length : Int) := of_decide_eq_true (by first | (with_reducible assumption) | assumption)
                           obtain ⟨ad120, e120, hx120_0⟩ := Kd.at_bool (Kd.R_reads' HO_8.out).2.2 x12_2 p120 q120
                           (try rw [← Nbq16.out] at hx120_0)
                           cases e120
                           replace p120 := eq_true p120
                           replace q120 := eq_true q120
                           obtain ⟨Ao21, co21, eo21⟩ := Kd.R_slice HO_11.out
                           subst eo21
                           go_wp2_with (first | ((with_reducible refine gate_builtin (b := .append) (xs := #[.tmp 51, .tmp 53]) rfl ?_); at_builtin; refine Kd.S_append (Kd.slice 3 (Kd.int .i64)) (w0 := w) w.heap.size rfl (.tmp 51) (.tmp 53) 25 36 (.slice none 0 0) 24 rfl Try.underlying25 info36 rfl (by decide) (by omega) u9 x9_1 x11_2 [.slice Ao21 x11_2.length co21] (fun k_ => some k_ ≠ (.slice Ao10 t113.length co10 : Value).ownBlock) (fun k_ => some k_ = (.slice Ao21 x11_2.length co21 : Value).ownBlock) rfl rfl ?aP (fun k_ hk_ => ((Kd.R_mono (ok' := fun k_ => ((fun k_ => some k_ ≠ (.slice Ao10 t113.length co10 : Value).ownBlock)) k_ ∧ some k_ ≠ (u9 : Value).ownBlock) (Kd.R_apart' (HO_11.out) (Kd.S_typed HO_9.out) (by decide)) (fun k_ hk => ⟨hk.1, hk.2⟩))).1 k_ hk_.symm) ?aF ?aO ?aB ?aS ?aL ?_; (case aP => exact Kd.M_row (Kd.R_mono (Kd.R_tight rfl (Kd.R_mono (ok' := fun k_ => ((fun k_ => some k_ ≠ (.slice Ao10 t113.length co10 : Value).ownBlock)) k_ ∧ some k_ ≠ (u9 : Value).ownBlock) (Kd.R_apart' (HO_11.out) (Kd.S_typed HO_9.out) (by decide)) (fun k_ hk => ⟨hk.1, hk.2⟩))) (fun _ h_ => h_))); (case aB => exact (by repeat (first | (with_reducible first | exact HB.out | apply below_alloc | apply pw_below_drewN | apply below_drew1 | refine below_set ?_ GE112.out) | exact HB.out))); (case aF => exact (fun k_ hk => Kd.fresh' (Kd.R_lt (by (with_reducible repeat (first | apply Kd.R_alloc | apply Kd.R_drewN | apply Kd.R_drew)); exact HO_6.out)) k_ hk)); (case aO => exact (by (with_reducible repeat (first | apply Kd.S_alloc | apply Kd.S_drewN | apply Kd.S_drew)); exact Kd.S_mono HO_9.out (fun k_ hk => ⟨hk.1, fun e_ => hk.2 e_⟩))); (case aS => exact (below_size (by repeat (first | (with_reducible first | exact HB.out | apply below_alloc | apply pw_below_drewN | apply below_drew1 | refine below_set ?_ GE112.out) | exact HB.out)))); (case aL => have := LMc19.out; omega); intro v122 w22 ho hb hg hat; rw [← Ny121.out] at ho; have n0_ := Aside0.mk (Kd.R_over' (by (with_reducible repeat (first | apply Kd.R_alloc | apply Kd.R_drewN | apply Kd.R_drew)); exact HO_6.out) (Kd.S_typed (by (with_reducible repeat (first | apply Kd.S_alloc | apply Kd.S_drewN | apply Kd.S_drew)); exact HO_9.out)) (by decide) hg); have n1_ := Aside0.mk (Kd.R_over' (by (with_reducible repeat (first | apply Kd.R_alloc | apply Kd.R_drewN | apply Kd.R_drew)); exact HO_8.out) (Kd.S_typed (by (with_reducible repeat (first | apply Kd.S_alloc | apply Kd.S_drewN | apply Kd.S_drew)); exact HO_9.out)) (by decide) hg); have n2_ := Aside0.mk (blk_grown (g := gb112) (o := .cells #[.int .i64 a0_0, .slice A0_1 l0_1.length c0_1] 24 (0, 0)) (by (with_reducible repeat (first | refine blk_drewN ?_ _ | refine blk_drew ?_ | refine blk_alloc ?_ _)); exact BK112.out) hg (Kd.S_ne HO_9.out BK112.out (by decide))); have n3_ := Aside0.mk (hb); have n4_ := Aside0.mk (ho); clear HO_6; clear HO_8; clear BK112; clear HB; clear HO_9; clear HO_11; have HO_6 := n0_; have HO_8 := n1_; have BK112 := n2_; have HB := n3_; have HO123 := n4_; clear n0_ n1_ n2_ n3_ n4_; clear ho hb hg hat))
                           go_roundg k2
                           case measure => have := HK1.out; have := HK2.out; omega
                           case rel => exact ⟨(x8_2), (y121), (wrap64 (x27_1 + 1)), (by first | rfl | (simp; done) | (simp [*]; done)), H', ⟨by have := HK1.out; have := HK2.out; omega⟩, ⟨by (with_reducible repeat (first | apply Kd.R_alloc | apply Kd.R_drewN | apply Kd.R_drew)); exact Kd.R_mono HO_6.out (fun _ hk => trivial)⟩, ⟨by (with_reducible repeat (first | apply Kd.R_alloc | apply Kd.R_drewN | apply Kd.R_drew)); exact HO_8.out⟩, ⟨by (with_reducible repeat (first | apply Kd.S_alloc | apply Kd.S_drewN | apply Kd.S_drew)); exact HO123.out⟩, ⟨by (with_reducible repeat (first | refine blk_drewN ?_ _ | refine blk_drew ?_ | refine blk_alloc ?_ _)); exact BK112.out⟩, ⟨by repeat (first | (with_reducible first | exact HB.out | apply below_alloc | apply pw_below_drewN | apply below_drew1 | refine below_set ?_ GE112.out) | exact HB.out)⟩⟩
                         · rw [if_neg c19] at H
                           exact absurd H (by simp)
                       · rw [if_neg c18] at H
                         have c18b0 : decide (0 < (x11_2.length : Int)) = false := decide_eq_false c18
                         have c18b1 : decide (0 < x11_2.length) = false := decide_eq_false (by omega)
                         clear c18
                         have H' := Aside0.mk H
                         clear H
                         obtain ⟨Ao23, co23, eo23⟩ := Kd.R_slice HO_8.out
                         subst eo23
                         have p120 : 0 ≤ (x12_2 : Int) := of_decide_eq_true (by first | (with_reducible assumption) | assumption)
                         have q120 : x12_2 < (x8_2.length : Int) := of_decide_eq_true (by first | (with_reducible assumption) | assumption)
                         obtain ⟨ad120, e120, hx120_0⟩ := Kd.at_bool (Kd.R_reads' HO_8.out).2.2 x12_2 p120 q120
                         (try rw [← Nbq16.out] at hx120_0)
                         cases e120
                         replace p120 := eq_true p120
                         replace q120 := eq_true q120
                         obtain ⟨Ao24, co24, eo24⟩ := Kd.R_slice HO_11.out
                         subst eo24
                         go_wp2
                         go_roundg k2
                         case measure => have := HK1.out; have := HK2.out; omega
                         case rel => exact ⟨(x8_2), (x9_1), (wrap64 (x27_1 + 1)), (by first | rfl | (simp; done) | (simp [*]; done)), H', ⟨by have := HK1.out; have := HK2.out; omega⟩, ⟨by (with_reducible repeat (first | apply Kd.R_alloc | apply Kd.R_drewN | apply Kd.R_drew)); exact Kd.R_mono HO_6.out (fun _ hk => trivial)⟩, ⟨by (with_reducible repeat (first | apply Kd.R_alloc | apply Kd.R_drewN | apply Kd.R_drew)); exact HO_8.out⟩, ⟨by (with_reducible repeat (first | apply Kd.S_alloc | apply Kd.S_drewN | apply Kd.S_drew)); exact Kd.S_mono HO_9.out (fun _ hk => hk.1)⟩, ⟨by (with_reducible repeat (first | refine blk_drewN ?_ _ | refine blk_drew ?_ | refine blk_alloc ?_ _)); exact BK112.out⟩, ⟨by repeat (first | (with_reducible first | exact HB.out | apply below_alloc | apply pw_below_drewN | apply below_drew1 | refine below_set ?_ GE112.out) | exact HB.out)⟩⟩
                     · replace c17 := Bool.eq_false_iff.mpr c17
                       subst c17
                       have H1 : (if x11_2.length < 17592186044416 then (if 0 ≤ (Go.bits .xor .i64 x12_2 1) then (if (Go.bits .xor .i64 x12_2 1) < (t113.length : Int) then (faces_Of.l1 k2 t113 (x8_2.set (x12_2 : Int).toNat true) x9_1 (x11_2 ++ [x12_2]) (rd t113 (Go.bits .xor .i64 x12_2 1)) (t113.length : Int) x27_1) else (none)) else (none)) else (none)) = some (r1, r2) := by rw [if_neg (show ¬ (false = true) by decide)] at H; exact H
                       clear H
                       have H := H1
                       clear H1
                       obtain ⟨y124, hy124⟩ : ∃ y_ : List Bool, y_ = (x8_2.set (x12_2 : Int).toNat true) := ⟨_, rfl⟩
                       replace H : (if x11_2.length < 17592186044416 then (if 0 ≤ (Go.bits .xor .i64 x12_2 1) then (if (Go.bits .xor .i64 x12_2 1) < (t113.length : Int) then (faces_Of.l1 k2 t113 y124 x9_1 (x11_2 ++ [x12_2]) (rd t113 (Go.bits .xor .i64 x12_2 1)) (t113.length : Int) x27_1) else (none)) else (none)) else (none)) = some (r1, r2) := by first | (rw [hy124]; with_reducible exact H) | (have H2_ := (Option.bind_some _ _).symm.trans H; rw [hy124]; with_reducible exact H2_) | (have H2_ := (Option.bind_some _ _).symm.trans H; with_reducible exact H2_) | with_reducible exact H | (rw [hy124]; exact H) | exact H
                       have Ny124 := Aside0.mk hy124
                       clear hy124
                       by_cases c26 : x11_2.length < 17592186044416
                       · rw [if_pos c26] at H
                         have LMc26 := Aside0.mk c26
                         clear c26
                         obtain ⟨y125, hy125⟩ : ∃ y_ : List Int, y_ = (x11_2 ++ [x12_2]) := ⟨_, rfl⟩
                         replace H : (if 0 ≤ (Go.bits .xor .i64 x12_2 1) then (if (Go.bits .xor .i64 x12_2 1) < (t113.length : Int) then (faces_Of.l1 k2 t113 y124 x9_1 y125 (rd t113 (Go.bits .xor .i64 x12_2 1)) (t113.length : Int) x27_1) else (none)) else (none)) = some (r1, r2) := by first | (rw [hy125]; with_reducible exact H) | (have H2_ := (Option.bind_some _ _).symm.trans H; rw [hy125]; with_reducible exact H2_) | (have H2_ := (Option.bind_some _ _).symm.trans H; with_reducible exact H2_) | with_reducible exact H | (rw [hy125]; exact H) | exact H
                         have Ny125 := Aside0.mk hy125
                         clear hy125
                         by_cases c27 : 0 ≤ (Go.bits .xor .i64 x12_2 1)
                         · rw [if_pos c27] at H
                           have c27b0 : decide (0 ≤ (Go.bits .xor .i64 x12_2 1)) = true := decide_eq_true c27
                           clear c27
                           by_cases c28 : (Go.bits .xor .i64 x12_2 1) < (t113.length : Int)
                           · rw [if_pos c28] at H
                             have c28b0 : decide ((Go.bits .xor .i64 x12_2 1) < (t113.length : Int)) = true := decide_eq_true c28
                             clear c28
                             have H' := Aside0.mk H
                             clear H
                             obtain ⟨Ao29, co29, eo29⟩ := Kd.R_slice HO_8.out
                             subst eo29
                             have p120 : 0 ≤ (x12_2 : Int) := of_decide_eq_true (by first | (with_reducible assumption) | assumption)
                             have q120 : x12_2 < (x8_2.length : Int) := of_decide_eq_true (by first | (with_reducible assumption) | assumption)
                             obtain ⟨ad120, e120, hx120_0⟩ := Kd.at_bool (Kd.R_reads' HO_8.out).2.2 x12_2 p120 q120
                             (try rw [← Nbq16.out] at hx120_0)
                             cases e120
                             replace p120 := eq_true p120
                             replace q120 := eq_true q120
                             have p25 : 0 ≤ (x12_2 : Int) := of_decide_eq_true (by first | (with_reducible assumption) | assumption)
                             have q25 : (x12_2 : Int) < ((x8_2.length : Int) : Int) := of_decide_eq_true (by first | (with_reducible assumption) | assumption)
                             obtain ⟨go25, co25, eo25, gb25, gl25, cl25, HG25⟩ := Kd.R_form HO_8.out (by omega)
                             (first | cases eo25 | (injection eo25 with ea_ en_ ec_; (first | subst ea_ | (injection ea_ with ea_; subst ea_)); subst ec_; clear en_))
                             have GB25 := Aside0.mk gb25
                             have GG25 := Aside0.mk HG25
                             clear gb25 gl25 HG25
                             (first | simp only [add_plain] at hx120_0 | skip)
                             obtain ⟨hx25_0, hf25_0⟩ := Kd.R_celln false HO_8.out (x12_2 : Int) p25 q25
                             replace p25 := eq_true p25
                             replace q25 := eq_true q25
                             have HP30 := Kd.R_putg HO_8.out (x12_2 : Int) true
                             go_wp2_with (first | ((with_reducible refine gate_store (t := 4) (p := 43) rfl ?_); refine store_event (t := 4) (p := 43) (v := ?vo_w31) (w1 := (wr.setCell ⟨go25, (x12_2 : Int).toNat, none⟩ (.bool true))) ?hg ?ho ?hn ?hr ?_; (case ho => rfl); (case hg => rfl); (case hn => rfl); (case hr => first | (go_simp; done) | (go_simp; rfl)); intro w31 hw; have hg : wr.grownBy w31 (some go25) := (by rw [hw]; exact HP30.2); have hp_ : Kd.R Kd.bool 4 w31 w.heap.size (fun _ => True) (.slice (some ⟨go25, 0, none⟩) x8_2.length co29) y124 := (by rw [hw, Ny124.out]; exact HP30.1); clear HP30; have n0_ := Aside0.mk (Kd.R_over' (v := (.slice (some ⟨go25, 0, none⟩) x8_2.length co29)) (by (with_reducible repeat (first | apply Kd.R_alloc | apply Kd.R_drewN | apply Kd.R_drew)); exact HO_6.out) (Kd.R_typed HO_8.out) (by decide) hg); have n1_ := Aside0.mk (hp_); have n2_ := Aside0.mk (Kd.S_over' (v := (.slice (some ⟨go25, 0, none⟩) x8_2.length co29)) (by (with_reducible repeat (first | apply Kd.S_alloc | apply Kd.S_drewN | apply Kd.S_drew)); exact HO_9.out) (Kd.R_typed HO_8.out) (by decide) hg); have n3_ := Aside0.mk (Kd.R_over' (v := (.slice (some ⟨go25, 0, none⟩) x8_2.length co29)) (by (with_reducible repeat (first | apply Kd.R_alloc | apply Kd.R_drewN | apply Kd.R_drew)); exact HO_11.out) (Kd.R_typed HO_8.out) (by decide) hg); have n4_ := Aside0.mk (blk_grown (g := gb112) (o := .cells #[.int .i64 a0_0, .slice A0_1 l0_1.length c0_1] 24 (0, 0)) (by (with_reducible repeat (first | refine blk_drewN ?_ _ | refine blk_drew ?_ | refine blk_alloc ?_ _)); exact BK112.out) hg (Kd.R_ne HO_8.out BK112.out (by decide))); have n5_ := Aside0.mk ((by rw [hw]; exact below_set (HB.out) GB25.out : Below w.heap.size w w31)); clear HO_6; clear HO_8; clear HO_9; clear HO_11; clear BK112; clear HB; have HO_6 := n0_; have HO_8 := n1_; have HO_9 := n2_; have HO_11 := n3_; have BK112 := n4_; have HB := n5_; clear n0_ n1_ n2_ n3_ n4_ n5_; clear hg hw hp_) | ((with_reducible refine gate_builtin (b := .append) (xs := #[.tmp 44, .tmp 46]) rfl ?_); at_builtin; refine Kd.R_append (Kd.int .i64) (w0 := w) w.heap.size rfl (.tmp 44) (.tmp 46) 36 3 (.int .i64 0) 8 rfl Try.underlying36 info3 rfl (by decide) (by omega) u11 x11_2 x12_2 [.int .i64 x12_2] (fun k_ => some k_ ≠ (.slice Ao10 t113.length co10 : Value).ownBlock) (fun _ => False) rfl rfl ?aP (fun _ hk => hk.elim) ?aF ?aO ?aB ?aS ?aL ?_; (case aP => exact rfl); (case aB => exact (by repeat (first | (with_reducible first | exact HB.out | apply below_alloc | apply pw_below_drewN | apply below_drew1 | refine below_set ?_ GE112.out) | exact HB.out))); (case aF => exact (fun k_ hk => Kd.fresh' (Kd.R_lt (by (with_reducible repeat (first | apply Kd.R_alloc | apply Kd.R_drewN | apply Kd.R_drew)); exact HO_6.out)) k_ hk)); (case aO => exact (by (with_reducible repeat (first | apply Kd.R_alloc | apply Kd.R_drewN | apply Kd.R_drew)); exact HO_11.out)); (case aS => exact (below_size (by repeat (first | (with_reducible first | exact HB.out | apply below_alloc | apply pw_below_drewN | apply below_drew1 | refine below_set ?_ GE112.out) | exact HB.out)))); (case aL => have := LMc26.out; omega); intro v126 w32 ho hb hg hat; rw [← Ny125.out] at ho; have n0_ := Aside0.mk (Kd.R_after (ok := (fun _ => True)) (by (with_reducible repeat (first | apply Kd.R_alloc | apply Kd.R_drewN | apply Kd.R_drew)); exact Kd.R_mono HO_6.out (fun _ hk => ⟨trivial, hk⟩)) hg hat); have n1_ := Aside0.mk (Kd.R_over' (by (with_reducible repeat (first | apply Kd.R_alloc | apply Kd.R_drewN | apply Kd.R_drew)); exact HO_8.out) (Kd.R_typed (by (with_reducible repeat (first | apply Kd.R_alloc | apply Kd.R_drewN | apply Kd.R_drew)); exact HO_11.out)) (by decide) hg); have n2_ := Aside0.mk (Kd.S_after (ok := (fun k_ => some k_ ≠ (.slice Ao10 t113.length co10 : Value).ownBlock)) (by (with_reducible repeat (first | apply Kd.S_alloc | apply Kd.S_drewN | apply Kd.S_drew)); exact HO_9.out) hg hat); have n3_ := Aside0.mk (blk_grown (g := gb112) (o := .cells #[.int .i64 a0_0, .slice A0_1 l0_1.length c0_1] 24 (0, 0)) (by (with_reducible repeat (first | refine blk_drewN ?_ _ | refine blk_drew ?_ | refine blk_alloc ?_ _)); exact BK112.out) hg (Kd.R_ne HO_11.out BK112.out (by decide))); have n4_ := Aside0.mk (hb); have n5_ := Aside0.mk (ho); clear HO_6; clear HO_8; clear HO_9; clear BK112; clear HB; clear HO_11; have HO_6 := n0_; have HO_8 := n1_; have HO_9 := n2_; have BK112 := n3_; have HB := n4_; have HO127 := n5_; clear n0_ n1_ n2_ n3_ n4_ n5_; clear ho hb hg hat; have p128 : 0 ≤ ((Go.bits .xor .i64 x12_2 1) : Int) := of_decide_eq_true (by first | (with_reducible assumption) | assumption); have q128 : (Go.bits .xor .i64 x12_2 1) < (t113.length : Int) := of_decide_eq_true (by first | (with_reducible assumption) | assumption); obtain ⟨ad128, e128, hx128_0⟩ := Kd.at_int (Kd.R_reads' HO_6.out).2.2 (Go.bits .xor .i64 x12_2 1) p128 q128; cases e128; replace p128 := eq_true p128; replace q128 := eq_true q128))
                             go_roundg k2
                             case measure => have := HK1.out; have := HK2.out; omega
                             case rel => exact ⟨(y124), (y125), (rd t113 (Go.bits .xor .i64 x12_2 1)), (by first | rfl | (simp; done) | (simp [*]; done)), H', ⟨by have := HK1.out; have := HK2.out; omega⟩, ⟨by (with_reducible repeat (first | apply Kd.R_alloc | apply Kd.R_drewN | apply Kd.R_drew)); exact Kd.R_mono HO_6.out (fun _ hk => hk.2)⟩, ⟨by (with_reducible repeat (first | apply Kd.R_alloc | apply Kd.R_drewN | apply Kd.R_drew)); exact HO_8.out⟩, ⟨by (with_reducible repeat (first | apply Kd.S_alloc | apply Kd.S_drewN | apply Kd.S_drew)); exact HO_9.out⟩, ⟨by (with_reducible repeat (first | apply Kd.R_alloc | apply Kd.R_drewN | apply Kd.R_drew)); exact HO127.out⟩, ⟨by (with_reducible repeat (first | refine blk_drewN ?_ _ | refine blk_drew ?_ | refine blk_alloc ?_ _)); exact BK112.out⟩, ⟨by repeat (first | (with_reducible first | exact HB.out | apply below_alloc | apply pw_below_drewN | apply below_drew1 | refine below_set ?_ GE112.out) | exact HB.out)⟩⟩
                           · rw [if_neg c28] at H
                             exact absurd H (by simp)
                         · rw [if_neg c27] at H
                           exact absurd H (by simp)
                       · rw [if_neg c26] at H
                         exact absurd H (by simp)
                   · rw [if_neg c15] at H
                     exact absurd H (by simp)
                 · rw [if_neg c14] at H
                   exact absurd H (by simp)
           · rw [if_neg c13] at H
             have c13b0 : decide (x27_1 < (t113.length : Int)) = false := decide_eq_false c13
             clear c13
             simp only [Option.some.injEq, Prod.mk.injEq] at H
             obtain ⟨rfl, rfl⟩ := H
             go_wp2
             go_ret2
             exact ⟨_, by first | rfl | (simp [errW_none, errW_some] <;> rfl) | (simp [*, errW_none, errW_some] <;> rfl), by (with_reducible repeat (first | apply Kd.S_alloc | apply Kd.S_drewN | apply Kd.S_drew)); exact Kd.S_mono HO_9.out (fun _ hk => trivial), by repeat (first | (with_reducible first | exact HB.out | apply below_alloc | apply pw_below_drewN | apply below_drew1 | refine below_set ?_ GE112.out) | exact HB.out)⟩
     · rw [if_neg c6] at H
       exact absurd H (by simp)
   · rw [if_neg c5] at H
     exact absurd H (by simp)
 · rw [if_neg c4] at H
   have c4b0 : (t116 == 0) = false := beq_eq_false_iff_ne.mpr c4
   have c4b1 : (t116 != 0) = true := bne_iff_ne.mpr c4
   simp only [Option.some.injEq, Prod.mk.injEq] at H
   obtain ⟨rfl, rfl⟩ := H
   go_enter Try.func10, Try.ntmps10
   go_wp2_with (first | ((with_reducible refine gate_dst (N := 2) rfl ?_); refine box_event ?hg (N := 2) ?hd (cs := #[.int .i64 a0_0, .slice A0_1 l0_1.length c0_1]) (t := 24) ?hr ?_; (case hd => rfl); (case hg => rfl); (case hr => first | (go_simp; done) | (go_simp; rfl)); intro gb112 hg w33 hbox hb; have n0_ := Aside0.mk (below_step (by repeat (first | (with_reducible first | exact HB.out | apply below_alloc | apply pw_below_drewN | apply below_drew1) | exact HB.out)) hb); have n1_ := Aside0.mk (hbox); have n2_ := Aside0.mk ((by rw [hg]; exact (below_size (by repeat (first | (with_reducible first | exact HB.out | apply below_alloc | apply pw_below_drewN | apply below_drew1) | exact HB.out))) : w.heap.size ≤ gb112)); have n3_ := Aside0.mk ((by rw [hg]; exact (below_size (by repeat (first | (with_reducible first | exact HB.out | apply below_alloc | apply pw_below_drewN | apply below_drew1) | exact HB.out))) : w.heap.size ≤ gb112)); clear HB; have HB := n0_; have BK112 := n1_; have GW112 := n2_; have GE112 := n3_; clear n0_ n1_ n2_ n3_; clear hb hbox hg; have hcz34_0 : w33.cell? ⟨gb112, 0, none⟩ = some (.int .i64 a0_0) := (blk_cell BK112.out 0).trans rfl; have hcz34_1 : w33.cell? ⟨gb112, 1, none⟩ = some (.slice A0_1 l0_1.length c0_1) := (blk_cell BK112.out 1).trans rfl; have hfz34_0 := blk_frozen BK112.out 0; have hfz34_1 := blk_frozen BK112.out 1) | ((with_reducible refine gate_callee (f := 22) rfl ?_); refine goesL_ (some 16) rfl rfl Try.func22 (by kernel_rfl) rfl #[.agg #[.int .i64 a0_0, .slice A0_1 l0_1.length c0_1], .slice A1 l1.length c1] rfl (by (try simp only [List.map_toArray, List.map_cons, List.map_nil]); first | done | rfl | (simp only [List.length_drop, List.length_take]; rfl)) ?_; (with_reducible refine (rot_Next.calls k a0_0 _ _ l0_1 _ _ l1 t113 t116 _ ?side1 ?side2 ?side3 ?side4 A3.out).mono ?_); (case side1 => repeat (first | exact (Kd.C_below HR0_1.out HB.out) | (with_reducible refine Kd.C_alloc ?_ _) | (with_reducible refine Kd.C_drewN ?_ _) | (with_reducible refine Kd.C_drew ?_))); (case side2 => exact HC0_1.out); (case side3 => repeat (first | exact (Kd.C_below HR1.out HB.out) | (with_reducible refine Kd.C_alloc ?_ _) | (with_reducible refine Kd.C_drewN ?_ _) | (with_reducible refine Kd.C_drew ?_))); (case side4 => exact HC1.out); rintro e w35 ⟨v114, rfl, ho0, hb⟩; refine ⟨_, rfl, ?_⟩; have n0_ := Aside0.mk (Kd.R_lower ho0 (below_size (by repeat (first | (with_reducible first | exact HB.out | apply below_alloc | apply pw_below_drewN | apply below_drew1 | refine below_set ?_ GE112.out) | exact HB.out)))); have n1_ := Aside0.mk (blk_below (g := gb112) (o := .cells #[.int .i64 a0_0, .slice A0_1 l0_1.length c0_1] 24 (0, 0)) (by (with_reducible repeat (first | refine blk_drewN ?_ _ | refine blk_drew ?_ | refine blk_alloc ?_ _)); exact BK112.out) hb); have n2_ := Aside0.mk (below_step (by repeat (first | (with_reducible first | exact HB.out | apply below_alloc | apply pw_below_drewN | apply below_drew1 | refine below_set ?_ GE112.out) | exact HB.out)) hb); clear BK112; clear HB; have HO115 := n0_; have BK112 := n1_; have HB := n2_; clear n0_ n1_ n2_; (try clear hb); (try clear hb2); (try clear hk); (try clear hi); (try clear ho0)))
   go_ret2
   exact ⟨_, by first | rfl | (simp [errW_none, errW_some] <;> rfl) | (simp [*, errW_none, errW_some] <;> rfl), by first | exact Kd.S_nil _ _ _ _ _ | exact Kd.N_nil _ _ _ _ _ | exact Kd.V_nil _ _ _ _ _ | exact Kd.Q_nil _ _ _ _ _ | exact Kd.R_nil _ _ _ _ _, by repeat (first | (with_reducible first | exact HB.out | apply below_alloc | apply pw_below_drewN | apply below_drew1 | refine below_set ?_ GE112.out) | exact HB.out)⟩
end Go.Proofs.Ytmikcfddipldnaa.GAll
namespace Go.Proofs.Ytmikcfddipldnaa.GAll
open Go.RowKit Go.Proofs.YtmikcfddipldnaaW.PrintWords Go.Proofs.YtmikcfddipldnaaW.PrintLast Go.Proofs.YtmikcfddipldnaaW.PrintMore
attribute [local go_sem] max2_int min2_int max_two min_two max_three min_three max_four min_four   -- for this text's walks alone
set_option linter.unusedVariables false
set_option linter.unusedSimpArgs false
def tangramref03_SameLists.l0 : Nat → List (List Int) → List (List Int) → Int → Option (Bool)
 | 0, _, _, _ => none
 | k + 1, x0, x1, x5 => if x5 < (x0.length : Int) then (if 0 ≤ x5 then (if x5 < (x1.length : Int) then ((tangramref03_SameInts.f k (rd_L5 x0 x5) (rd_L5 x1 x5)).bind fun t133 => (if t133 = true then (tangramref03_SameLists.l0 k x0 x1 (wrap64 (x5 + 1))) else (some false))) else (none)) else (none)) else (some true)
def tangramref03_SameLists.f (k : Nat) (l0 : List (List Int)) (l1 : List (List Int)) : Option (Bool) := if (l0.length : Int) = (l1.length : Int) then (tangramref03_SameLists.l0 k l0 l1 0) else (some false)
theorem tangramref03_SameLists.mono_l : ∀ k, (∀ y0 y1 y2, LeO (tangramref03_SameLists.l0 k y0 y1 y2) (tangramref03_SameLists.l0 (k + 1) y0 y1 y2))
 | 0 => fun _ _ _ r h => by simp [tangramref03_SameLists.l0] at h
 | k + 1 => by
   have ih0 := tangramref03_SameLists.mono_l k
   · intro y0 y1 y2
     unfold tangramref03_SameLists.l0
     repeat' first
     | (with_reducible exact ih0 _ _ _)
     | (with_reducible exact tangramref03_SameInts.mono _ _ _)
     | (with_reducible exact LeO.refl _)
     | (with_reducible exact LeO.none _)
     | (with_reducible refine LeO.ite ?_ ?_)
     | (with_reducible refine LeO.bind ?_ (fun _ => ?_))
     | exact ih0 _ _ _
     | exact tangramref03_SameInts.mono _ _ _
     | exact LeO.none _
     | refine LeO.ite ?_ ?_
     | refine LeO.bind ?_ (fun _ => ?_)
theorem tangramref03_SameLists.mono : ∀ a0 a1 k, LeO (tangramref03_SameLists.f k a0 a1) (tangramref03_SameLists.f (k + 1) a0 a1) := by
 intro a0 a1 k
 have ih0 := tangramref03_SameLists.mono_l k
 unfold tangramref03_SameLists.f
 repeat' first
     | (with_reducible exact ih0 _ _ _)
     | (with_reducible exact tangramref03_SameInts.mono _ _ _)
     | (with_reducible exact LeO.refl _)
     | (with_reducible exact LeO.none _)
     | (with_reducible refine LeO.ite ?_ ?_)
     | (with_reducible refine LeO.bind ?_ (fun _ => ?_))
     | exact ih0 _ _ _
     | exact tangramref03_SameInts.mono _ _ _
     | exact LeO.none _
     | refine LeO.ite ?_ ?_
     | refine LeO.bind ?_ (fun _ => ?_)
set_option maxHeartbeats 8000000 in
set_option maxRecDepth 100000 in
theorem tangramref03_SameLists.calls (k : Nat) (A0 : Option Addr) (c0 : Nat) (l0 : List (List Int)) (A1 : Option Addr) (c1 : Nat) (l1 : List (List Int)) (r : Bool) (w : World) (hr0 : Kd.C (Kd.slice 3 (Kd.int .i64)) w A0 l0.length l0) (hc0 : l0.length ≤ c0) (hr1 : Kd.C (Kd.slice 3 (Kd.int .i64)) w A1 l1.length l1) (hc1 : l1.length ≤ c1) (h : tangramref03_SameLists.f k l0 l1 = some r) :
   Calls Try.prog 14 #[.slice A0 l0.length c0, .slice A1 l1.length c1] w fun e w' => e = .returned (.bool r) ∧ Drawn0 w w' := by
 have HR0 := Aside0.mk hr0
 have HC0 := Aside0.mk hc0
 clear hr0 hc0
 have HR1 := Aside0.mk hr1
 have HC1 := Aside0.mk hc1
 clear hr1 hc1
 have H : (if (l0.length : Int) = (l1.length : Int) then (tangramref03_SameLists.l0 k l0 l1 0) else (some false)) = some r := h
 clear h
 by_cases c3 : (l0.length : Int) = (l1.length : Int)
 · rw [if_pos c3] at H
   have c3b0 : ((l0.length : Int) == (l1.length : Int)) = true := beq_iff_eq.mpr c3
   have c3b1 : ((l0.length : Int) != (l1.length : Int)) = false := bne_eq_false_iff_eq.mpr c3
   have c3b2 : (l0.length == l1.length) = true := by first | simpa using c3 | (simp at c3 ⊢; omega)
   clear c3
   have H' := Aside0.mk H
   clear H
   go_enter Try.func14, Try.ntmps14
   go_wp2
   repeat (go_quiet (fail); try go_wp2)
   go_loopg [5] k (fun kq v5 w' => ∃ (x5_1 : Int), v5 = .int .i64 x5_1 ∧ Aside0 (tangramref03_SameLists.l0 kq l0 l1 x5_1 = some r) ∧ Aside0 (kq ≤ k) ∧ Drawn0 w w')
   case atStart => exact ⟨(0), (by first | rfl | (simp; done) | (simp [*]; done)), H', ⟨Nat.le_refl _⟩, by repeat (first | exact Drawn0.refl _ | apply Drawn0.step)⟩
   case round =>
     clear H'
     try clear c1
     try clear p2
     try clear c3
     try clear c3b0
     try clear c3b1
     try clear c3b2
     obtain ⟨x5_1, rfl, HA, HK1, ⟨m1, rfl⟩⟩ := hrel
     cases gk with
     | zero => exact absurd HA.out (by simp [tangramref03_SameLists.l0])
     | succ k1 =>
       have H := HA.out
       clear HA
       simp only [tangramref03_SameLists.l0] at H
       by_cases c4 : x5_1 < (l0.length : Int)
       · rw [if_pos c4] at H
         have c4b0 : decide (x5_1 < (l0.length : Int)) = true := decide_eq_true c4
         clear c4
         by_cases c5 : 0 ≤ x5_1
         · rw [if_pos c5] at H
           have c5b0 : decide (0 ≤ x5_1) = true := decide_eq_true c5
           clear c5
           by_cases c6 : x5_1 < (l1.length : Int)
           · rw [if_pos c6] at H
             have c6b0 : decide (x5_1 < (l1.length : Int)) = true := decide_eq_true c6
             clear c6
             replace H := Option.bind_eq_some_iff.mp H
             obtain ⟨t133, A70, H⟩ := H
             replace H : (if t133 = true then (tangramref03_SameLists.l0 k1 l0 l1 (wrap64 (x5_1 + 1))) else (some false)) = some r := H
             have A7 := Aside0.mk A70
             clear A70
             by_cases c8 : t133 = true
             · subst c8
               have H1 : (tangramref03_SameLists.l0 k1 l0 l1 (wrap64 (x5_1 + 1))) = some r := by rw [if_pos rfl] at H; exact H
               clear H
               have H := H1
               clear H1
               have H' := Aside0.mk H
               clear H
               have p131 : 0 ≤ (x5_1 : Int) := of_decide_eq_true (by first | (with_reducible assumption) | assumption)
               have q131 : x5_1 < (l0.length : Int) := of_decide_eq_true (by first | (with_reducible assumption) | assumption)
               obtain ⟨ad131, A131_0, c131_0, e131, hx131_0, hl131_0, hi131_0⟩ := at_L5 HR0.out x5_1 p131 q131
               cases e131
               have HR131_0 := Aside0.mk hi131_0
               have HC131_0 := Aside0.mk hl131_0
               clear hi131_0 hl131_0
               replace p131 := eq_true p131
               replace q131 := eq_true q131
               have p132 : 0 ≤ (x5_1 : Int) := of_decide_eq_true (by first | (with_reducible assumption) | assumption)
               have q132 : x5_1 < (l1.length : Int) := of_decide_eq_true (by first | (with_reducible assumption) | assumption)
               obtain ⟨ad132, A132_0, c132_0, e132, hx132_0, hl132_0, hi132_0⟩ := at_L5 HR1.out x5_1 p132 q132
               cases e132
               have HR132_0 := Aside0.mk hi132_0
               have HC132_0 := Aside0.mk hl132_0
               clear hi132_0 hl132_0
               replace p132 := eq_true p132
               replace q132 := eq_true q132
               go_wp2_with (first | (go_at_call 17; (with_reducible refine (tangramref03_SameInts.calls k1 _ _ (rd_L5 l0 x5_1) _ _ (rd_L5 l1 x5_1) true _ ?side1 ?side2 ?side3 ?side4 A7.out).mono ?_); (case side1 => repeat (first | exact HR131_0.out | (with_reducible refine Kd.C_alloc ?_ _) | (with_reducible refine Kd.C_drewN ?_ _) | (with_reducible refine Kd.C_drew ?_))); (case side2 => exact HC131_0.out); (case side3 => repeat (first | exact HR132_0.out | (with_reducible refine Kd.C_alloc ?_ _) | (with_reducible refine Kd.C_drewN ?_ _) | (with_reducible refine Kd.C_drew ?_))); (case side4 => exact HC132_0.out); rintro e w' ⟨rfl, ⟨nd, rfl⟩⟩; (try first | exact ⟨rfl, _, World.drewN_drewN _ _ _⟩ | exact ⟨rfl, _, Eq.trans (World.drewN_drewN _ _ _) (congrArg (World.drewN _) (Nat.add_assoc _ _ _))⟩)))
               repeat (go_quiet (first | (go_at_call 17; (with_reducible refine (tangramref03_SameInts.calls k1 _ _ (rd_L5 l0 x5_1) _ _ (rd_L5 l1 x5_1) true _ ?side1 ?side2 ?side3 ?side4 A7.out).mono ?_); (case side1 => repeat (first | exact HR131_0.out | (with_reducible refine Kd.C_alloc ?_ _) | (with_reducible refine Kd.C_drewN ?_ _) | (with_reducible refine Kd.C_drew ?_))); (case side2 => exact HC131_0.out); (case side3 => repeat (first | exact HR132_0.out | (with_reducible refine Kd.C_alloc ?_ _) | (with_reducible refine Kd.C_drewN ?_ _) | (with_reducible refine Kd.C_drew ?_))); (case side4 => exact HC132_0.out); rintro e w' ⟨rfl, ⟨nd, rfl⟩⟩; (try first | exact ⟨rfl, _, World.drewN_drewN _ _ _⟩ | exact ⟨rfl, _, Eq.trans (World.drewN_drewN _ _ _) (congrArg (World.drewN _) (Nat.add_assoc _ _ _))⟩))); try go_wp2_with (first | (go_at_call 17; (with_reducible refine (tangramref03_SameInts.calls k1 _ _ (rd_L5 l0 x5_1) _ _ (rd_L5 l1 x5_1) true _ ?side1 ?side2 ?side3 ?side4 A7.out).mono ?_); (case side1 => repeat (first | exact HR131_0.out | (with_reducible refine Kd.C_alloc ?_ _) | (with_reducible refine Kd.C_drewN ?_ _) | (with_reducible refine Kd.C_drew ?_))); (case side2 => exact HC131_0.out); (case side3 => repeat (first | exact HR132_0.out | (with_reducible refine Kd.C_alloc ?_ _) | (with_reducible refine Kd.C_drewN ?_ _) | (with_reducible refine Kd.C_drew ?_))); (case side4 => exact HC132_0.out); rintro e w' ⟨rfl, ⟨nd, rfl⟩⟩; (try first | exact ⟨rfl, _, World.drewN_drewN _ _ _⟩ | exact ⟨rfl, _, Eq.trans (World.drewN_drewN _ _ _) (congrArg (World.drewN _) (Nat.add_assoc _ _ _))⟩))))
               go_roundg k1
               case measure => have := HK1.out; omega
               case rel => exact ⟨(wrap64 (x5_1 + 1)), (by first | rfl | (simp; done) | (simp [*]; done)), H', ⟨by have := HK1.out; omega⟩, by repeat (first | exact Drawn0.refl _ | apply Drawn0.step)⟩
             · replace c8 := Bool.eq_false_iff.mpr c8
               subst c8
               have H1 : (some false) = some r := by rw [if_neg (show ¬ (false = true) by decide)] at H; exact H
               clear H
               have H := H1
               clear H1
               obtain rfl := Option.some.inj H
               have p131 : 0 ≤ (x5_1 : Int) := of_decide_eq_true (by first | (with_reducible assumption) | assumption)
               have q131 : x5_1 < (l0.length : Int) := of_decide_eq_true (by first | (with_reducible assumption) | assumption)
               obtain ⟨ad131, A131_0, c131_0, e131, hx131_0, hl131_0, hi131_0⟩ := at_L5 HR0.out x5_1 p131 q131
               cases e131
               have HR131_0 := Aside0.mk hi131_0
               have HC131_0 := Aside0.mk hl131_0
               clear hi131_0 hl131_0
               replace p131 := eq_true p131
               replace q131 := eq_true q131
               have p132 : 0 ≤ (x5_1 : Int) := of_decide_eq_true (by first | (with_reducible assumption) | assumption)
               have q132 : x5_1 < (l1.length : Int) := of_decide_eq_true (by first | (with_reducible assumption) | assumption)
               obtain ⟨ad132, A132_0, c132_0, e132, hx132_0, hl132_0, hi132_0⟩ := at_L5 HR1.out x5_1 p132 q132
               cases e132
               have HR132_0 := Aside0.mk hi132_0
               have HC132_0 := Aside0.mk hl132_0
               clear hi132_0 hl132_0
               replace p132 := eq_true p132
               replace q132 := eq_true q132
               go_wp2_with (first | (go_at_call 17; (with_reducible refine (tangramref03_SameInts.calls k1 _ _ (rd_L5 l0 x5_1) _ _ (rd_L5 l1 x5_1) false _ ?side1 ?side2 ?side3 ?side4 A7.out).mono ?_); (case side1 => repeat (first | exact HR131_0.out | (with_reducible refine Kd.C_alloc ?_ _) | (with_reducible refine Kd.C_drewN ?_ _) | (with_reducible refine Kd.C_drew ?_))); (case side2 => exact HC131_0.out); (case side3 => repeat (first | exact HR132_0.out | (with_reducible refine Kd.C_alloc ?_ _) | (with_reducible refine Kd.C_drewN ?_ _) | (with_reducible refine Kd.C_drew ?_))); (case side4 => exact HC132_0.out); rintro e w' ⟨rfl, ⟨nd, rfl⟩⟩; (try first | exact ⟨rfl, _, World.drewN_drewN _ _ _⟩ | exact ⟨rfl, _, Eq.trans (World.drewN_drewN _ _ _) (congrArg (World.drewN _) (Nat.add_assoc _ _ _))⟩)))
               repeat (go_quiet (first | (go_at_call 17; (with_reducible refine (tangramref03_SameInts.calls k1 _ _ (rd_L5 l0 x5_1) _ _ (rd_L5 l1 x5_1) false _ ?side1 ?side2 ?side3 ?side4 A7.out).mono ?_); (case side1 => repeat (first | exact HR131_0.out | (with_reducible refine Kd.C_alloc ?_ _) | (with_reducible refine Kd.C_drewN ?_ _) | (with_reducible refine Kd.C_drew ?_))); (case side2 => exact HC131_0.out); (case side3 => repeat (first | exact HR132_0.out | (with_reducible refine Kd.C_alloc ?_ _) | (with_reducible refine Kd.C_drewN ?_ _) | (with_reducible refine Kd.C_drew ?_))); (case side4 => exact HC132_0.out); rintro e w' ⟨rfl, ⟨nd, rfl⟩⟩; (try first | exact ⟨rfl, _, World.drewN_drewN _ _ _⟩ | exact ⟨rfl, _, Eq.trans (World.drewN_drewN _ _ _) (congrArg (World.drewN _) (Nat.add_assoc _ _ _))⟩))); try go_wp2_with (first | (go_at_call 17; (with_reducible refine (tangramref03_SameInts.calls k1 _ _ (rd_L5 l0 x5_1) _ _ (rd_L5 l1 x5_1) false _ ?side1 ?side2 ?side3 ?side4 A7.out).mono ?_); (case side1 => repeat (first | exact HR131_0.out | (with_reducible refine Kd.C_alloc ?_ _) | (with_reducible refine Kd.C_drewN ?_ _) | (with_reducible refine Kd.C_drew ?_))); (case side2 => exact HC131_0.out); (case side3 => repeat (first | exact HR132_0.out | (with_reducible refine Kd.C_alloc ?_ _) | (with_reducible refine Kd.C_drewN ?_ _) | (with_reducible refine Kd.C_drew ?_))); (case side4 => exact HC132_0.out); rintro e w' ⟨rfl, ⟨nd, rfl⟩⟩; (try first | exact ⟨rfl, _, World.drewN_drewN _ _ _⟩ | exact ⟨rfl, _, Eq.trans (World.drewN_drewN _ _ _) (congrArg (World.drewN _) (Nat.add_assoc _ _ _))⟩))))
               go_ret
               exact ⟨by first | rfl | (simp; done) | (simp [*]; done), by repeat (first | exact Drawn0.refl _ | apply Drawn0.step)⟩
           · rw [if_neg c6] at H
             exact absurd H (by simp)
         · rw [if_neg c5] at H
           exact absurd H (by simp)
       · rw [if_neg c4] at H
         have c4b0 : decide (x5_1 < (l0.length : Int)) = false := decide_eq_false c4
         clear c4
         obtain rfl := Option.some.inj H
         go_wp2
         repeat (go_quiet (fail); try go_wp2)
         go_ret
         exact ⟨by first | rfl | (simp; done) | (simp [*]; done), by repeat (first | exact Drawn0.refl _ | apply Drawn0.step)⟩
 · rw [if_neg c3] at H
   have c3b0 : ((l0.length : Int) == (l1.length : Int)) = false := beq_eq_false_iff_ne.mpr c3
   have c3b1 : ((l0.length : Int) != (l1.length : Int)) = true := bne_iff_ne.mpr c3
   have c3b2 : (l0.length == l1.length) = false := by first | simpa using c3 | (simp at c3 ⊢; omega)
   obtain rfl := Option.some.inj H
   go_enter Try.func14, Try.ntmps14
   go_wp2
   repeat (go_quiet (fail); try go_wp2)
   go_ret
   exact ⟨by first | rfl | (simp; done) | (simp [*]; done), by repeat (first | exact Drawn0.refl _ | apply Drawn0.step)⟩
end Go.Proofs.Ytmikcfddipldnaa.GAll
namespace Go.Proofs.Ytmikcfddipldnaa.GAll
open Go.RowKit Go.Proofs.YtmikcfddipldnaaW.PrintWords Go.Proofs.YtmikcfddipldnaaW.PrintLast Go.Proofs.YtmikcfddipldnaaW.PrintMore
attribute [local go_sem] max2_int min2_int max_two min_two max_three min_three max_four min_four   -- for this text's walks alone
set_option linter.unusedVariables false
set_option linter.unusedSimpArgs false
def faces_Left.f (k : Nat) (a0_0 : Int) (l0_1 : List S56) (l1 : List (List Int)) : Option (List Int × Int) := (faces_Of.f k a0_0 l0_1 l1).bind fun t => if t.2 = 0 then (if Face.fitL t.1 l0_1.length = true then some (Face.leftL t.1 (2 * l0_1.length), 0) else none) else some ([], t.2)
theorem faces_Left.mono : ∀ a0 a1 a2 k, LeO (faces_Left.f k a0 a1 a2) (faces_Left.f (k + 1) a0 a1 a2) := by
 intro a0 a1 a2 k
 unfold faces_Left.f
 exact LeO.bind (faces_Of.mono _ _ _ _) (fun _ => LeO.refl _)
theorem faces_Left.calls (k : Nat) (a0_0 : Int) (A0_1 : Option Addr) (c0_1 : Nat) (l0_1 : List (S56)) (A1 : Option Addr) (c1 : Nat) (l1 : List (List Int)) (r1 : List Int) (r2 : Int) (w : World) (hr0_1 : Kd.C k56 w A0_1 l0_1.length l0_1) (hc0_1 : l0_1.length ≤ c0_1) (hr1 : Kd.C (Kd.slice 3 (Kd.int .i64)) w A1 l1.length l1) (hc1 : l1.length ≤ c1) (h : faces_Left.f k a0_0 l0_1 l1 = some (r1, r2)) :
   Calls Try.prog 15 #[.agg #[.int .i64 a0_0, .slice A0_1 l0_1.length c0_1], .slice A1 l1.length c1] w fun e w' => ∃ v0_ : Value, e = .returned (.tuple #[v0_, .int .i64 r2]) ∧ Kd.R (Kd.int .i64) 3 w' w.heap.size (fun _ => True) v0_ r1 ∧ Below w.heap.size w w' := by
 obtain ⟨⟨fs, e0⟩, ht, h⟩ := Option.bind_eq_some_iff.mp h
 have hof : Face.OfSaysL fs e0 a0_0 A0_1 l0_1.length c0_1 A1 l1.length c1 w := fun W hW => (faces_Of.calls k a0_0 A0_1 c0_1 l0_1 A1 c1 l1 fs e0 W (Kd.C_below hr0_1 hW) hc0_1 (Kd.C_below hr1 hW) hc1 ht).mono fun e w' ⟨v, h1, h2, h3⟩ => ⟨v, h1, Kd.S_R h2, h3⟩
 by_cases he : e0 = 0
 · subst he
   rw [if_pos rfl] at h
   by_cases hf : Face.fitL fs l0_1.length = true
   · rw [if_pos hf] at h
     obtain ⟨rfl, rfl⟩ : Face.leftL fs (2 * l0_1.length) = r1 ∧ 0 = r2 := by simpa using h
     exact Face.left_ok a0_0 A0_1 l0_1.length c0_1 A1 l1.length c1 fs w (Face.fitL_iff.1 hf) hof
   · rw [if_neg hf] at h; cases h
 · rw [if_neg he] at h
   obtain ⟨rfl, rfl⟩ : ([] : List Int) = r1 ∧ e0 = r2 := by simpa using h
   exact Face.left_bad a0_0 A0_1 l0_1.length c0_1 A1 l1.length c1 e0 he fs w hof
end Go.Proofs.Ytmikcfddipldnaa.GAll
namespace Go.Proofs.Ytmikcfddipldnaa.GAll
open Go.RowKit Go.Proofs.YtmikcfddipldnaaW.PrintWords Go.Proofs.YtmikcfddipldnaaW.PrintLast Go.Proofs.YtmikcfddipldnaaW.PrintMore
attribute [local go_sem] max2_int min2_int max_two min_two max_three min_three max_four min_four   -- for this text's walks alone
set_option linter.unusedVariables false
set_option linter.unusedSimpArgs false
def faces_Genus.told (l : List S56) (fs : List (List Int)) (o : List Int × Int × Int) : Option (Int × Int) :=
 if o.2.2 = 0 ∧ 0 ≤ o.2.1 ∧ Cnt.fitB o.1 (l.map fun x => (x.f0, x.f1)) fs o.2.1.toNat = true then some (Cnt.genusSum o.1 (l.map fun x => (x.f0, x.f1)) fs o.2.1.toNat, 0) else none
def faces_Genus.f (k : Nat) (a0_0 : Int) (l0_1 : List S56) (l1 : List (List Int)) : Option (Int × Int) := (faces_Of.f k a0_0 l0_1 l1).bind fun t => if t.2 = 0 then (comps_Of.f k a0_0 l0_1).bind fun o => faces_Genus.told l0_1 t.1 o else some (0, t.2)
theorem faces_Genus.mono : ∀ a0 a1 a2 k, LeO (faces_Genus.f k a0 a1 a2) (faces_Genus.f (k + 1) a0 a1 a2) := by
 intro a0 a1 a2 k
 unfold faces_Genus.f
 exact LeO.bind (faces_Of.mono _ _ _ _) (fun _ => LeO.ite (LeO.bind (comps_Of.mono _ _ _) (fun _ => LeO.refl _)) (LeO.refl _))
theorem faces_Genus.calls (k : Nat) (a0_0 : Int) (A0_1 : Option Addr) (c0_1 : Nat) (l0_1 : List (S56)) (A1 : Option Addr) (c1 : Nat) (l1 : List (List Int)) (r1 : Int) (r2 : Int) (w : World) (hr0_1 : Kd.C k56 w A0_1 l0_1.length l0_1) (hc0_1 : l0_1.length ≤ c0_1) (hr1 : Kd.C (Kd.slice 3 (Kd.int .i64)) w A1 l1.length l1) (hc1 : l1.length ≤ c1) (h : faces_Genus.f k a0_0 l0_1 l1 = some (r1, r2)) :
   Calls Try.prog 18 #[.agg #[.int .i64 a0_0, .slice A0_1 l0_1.length c0_1], .slice A1 l1.length c1] w fun e w' => e = .returned (.tuple #[.int .i64 r1, .int .i64 r2]) ∧ Below w.heap.size w w' := by
 obtain ⟨⟨fs, e0⟩, ht, h⟩ := Option.bind_eq_some_iff.mp h
 have hof : Cnt.OfSays fs e0 a0_0 A0_1 l0_1.length c0_1 A1 l1.length c1 w := fun W hW => (faces_Of.calls k a0_0 A0_1 c0_1 l0_1 A1 c1 l1 fs e0 W (Kd.C_below hr0_1 hW) hc0_1 (Kd.C_below hr1 hW) hc1 ht).mono fun e w' ⟨v, h1, h2, h3⟩ => ⟨v, h1, Kd.S_R h2, h3⟩
 by_cases he : e0 = 0
 · subst he
   rw [if_pos rfl] at h
   obtain ⟨⟨og, cn, e1⟩, hc, h⟩ := Option.bind_eq_some_iff.mp h
   unfold faces_Genus.told at h
   by_cases hf : (og, cn, e1).2.2 = 0 ∧ 0 ≤ (og, cn, e1).2.1 ∧ Cnt.fitB (og, cn, e1).1 (l0_1.map fun x => (x.f0, x.f1)) fs (og, cn, e1).2.1.toNat = true
   · rw [if_pos hf] at h
     obtain ⟨rfl, rfl⟩ : Cnt.genusSum og (l0_1.map fun x => (x.f0, x.f1)) fs cn.toNat = r1 ∧ 0 = r2 := by simpa using h
     obtain ⟨g1, g2, g3⟩ := hf
     simp only at g1 g2 g3
     subst g1
     obtain ⟨c, rfl⟩ := Int.eq_ofNat_of_zero_le g2
     have hco : Cnt.CompsSays og c a0_0 A0_1 l0_1.length c0_1 w := fun W hW => (comps_Of.calls k a0_0 A0_1 c0_1 l0_1 og _ 0 W (Kd.C_below hr0_1 hW) hc0_1 hc).mono fun e w' ⟨v, h1, h2, h3⟩ => ⟨v, h1, h2, h3⟩
     obtain ⟨es, hes⟩ : ∃ es : List (Int × Int), es = l0_1.map fun x => (x.f0, x.f1) := ⟨_, rfl⟩
     have hp : Sets.Pairs w A0_1 es := by rw [hes]; exact comps_Of.pairs hr0_1
     have hp2 : Mem.Pairs w A0_1 es := fun i hi => hp i hi
     have hl : l0_1.length = es.length := by rw [hes, List.length_map]
     rw [← hes] at g3 ⊢
     exact Cnt.genus_ok a0_0 A0_1 es l0_1.length c0_1 A1 l1.length c1 fs og c w hl hp2 (Cnt.fit_of.1 g3) hof hco
   · rw [if_neg hf] at h; cases h
 · rw [if_neg he] at h
   obtain ⟨rfl, rfl⟩ : (0 : Int) = r1 ∧ e0 = r2 := by simpa using h
   exact Cnt.genus_bad a0_0 A0_1 l0_1.length c0_1 A1 l1.length c1 e0 he fs w hof
end Go.Proofs.Ytmikcfddipldnaa.GAll
namespace Go.Proofs.Ytmikcfddipldnaa.GAll
open Go.RowKit Go.Proofs.YtmikcfddipldnaaW.PrintWords Go.Proofs.YtmikcfddipldnaaW.PrintLast Go.Proofs.YtmikcfddipldnaaW.PrintMore
attribute [local go_sem] max2_int min2_int max_two min_two max_three min_three max_four min_four   -- for this text's walks alone
set_option linter.unusedVariables false
set_option linter.unusedSimpArgs false
def faces_Flat.f (k : Nat) (a0_0 : Int) (l0_1 : List (S56)) (l1 : List (List Int)) : Option (Bool) := (faces_Genus.f k a0_0 l0_1 l1).bind fun bt135 => (if bt135.2 = 0 then (some (bt135.1 == 0)) else (some false))
theorem faces_Flat.mono : ∀ a0 a1 a2 k, LeO (faces_Flat.f k a0 a1 a2) (faces_Flat.f (k + 1) a0 a1 a2) := by
 intro a0 a1 a2 k
 unfold faces_Flat.f
 repeat' first
     | (with_reducible exact faces_Genus.mono _ _ _ _)
     | (with_reducible exact LeO.refl _)
     | (with_reducible exact LeO.none _)
     | (with_reducible refine LeO.ite ?_ ?_)
     | (with_reducible refine LeO.bind ?_ (fun _ => ?_))
     | exact faces_Genus.mono _ _ _ _
     | exact LeO.none _
     | refine LeO.ite ?_ ?_
     | refine LeO.bind ?_ (fun _ => ?_)
set_option maxHeartbeats 8000000 in
set_option maxRecDepth 100000 in
theorem faces_Flat.calls (k : Nat) (a0_0 : Int) (A0_1 : Option Addr) (c0_1 : Nat) (l0_1 : List (S56)) (A1 : Option Addr) (c1 : Nat) (l1 : List (List Int)) (r : Bool) (w : World) (hr0_1 : Kd.C k56 w A0_1 l0_1.length l0_1) (hc0_1 : l0_1.length ≤ c0_1) (hr1 : Kd.C (Kd.slice 3 (Kd.int .i64)) w A1 l1.length l1) (hc1 : l1.length ≤ c1) (h : faces_Flat.f k a0_0 l0_1 l1 = some r) :
   Calls Try.prog 20 #[.agg #[.int .i64 a0_0, .slice A0_1 l0_1.length c0_1], .slice A1 l1.length c1] w fun e w' => e = .returned (.bool r) ∧ Below w.heap.size w w' := by
 have hu24 := Try.underlying24
 have HR0_1 := Aside0.mk hr0_1
 have HC0_1 := Aside0.mk hc0_1
 clear hr0_1 hc0_1
 have HR1 := Aside0.mk hr1
 have HC1 := Aside0.mk hc1
 clear hr1 hc1
 have HB := Aside0.mk (Below.refl w.heap.size w)
 have H : ((faces_Genus.f k a0_0 l0_1 l1).bind fun bt135 => (if bt135.2 = 0 then (some (bt135.1 == 0)) else (some false))) = some r := h
 clear h
 replace H := Option.bind_eq_some_iff.mp H
 obtain ⟨⟨t135, t136⟩, A30, H⟩ := H
 replace H : (if t136 = 0 then (some (t135 == 0)) else (some false)) = some r := H
 have A3 := Aside0.mk A30
 clear A30
 by_cases c4 : t136 = 0
 · rw [if_pos c4] at H
   have c4b0 : (t136 == 0) = true := beq_iff_eq.mpr c4
   have c4b1 : (t136 != 0) = false := bne_eq_false_iff_eq.mpr c4
   clear c4
   obtain rfl := Option.some.inj H
   go_enter Try.func20, Try.ntmps20
   go_wp2_with (first | ((with_reducible refine gate_dst (N := 2) rfl ?_); refine box_event ?hg (N := 2) ?hd (cs := #[.int .i64 a0_0, .slice A0_1 l0_1.length c0_1]) (t := 24) ?hr ?_; (case hd => rfl); (case hg => rfl); (case hr => first | (go_simp; done) | (go_simp; rfl)); intro gb134 hg w5 hbox hb; have n0_ := Aside0.mk (below_step (by repeat (first | (with_reducible first | exact HB.out | apply below_alloc | apply pw_below_drewN | apply below_drew1) | exact HB.out)) hb); have n1_ := Aside0.mk (hbox); have n2_ := Aside0.mk ((by rw [hg]; exact (below_size (by repeat (first | (with_reducible first | exact HB.out | apply below_alloc | apply pw_below_drewN | apply below_drew1) | exact HB.out))) : w.heap.size ≤ gb134)); have n3_ := Aside0.mk ((by rw [hg]; exact (below_size (by repeat (first | (with_reducible first | exact HB.out | apply below_alloc | apply pw_below_drewN | apply below_drew1) | exact HB.out))) : w.heap.size ≤ gb134)); clear HB; have HB := n0_; have BK134 := n1_; have GW134 := n2_; have GE134 := n3_; clear n0_ n1_ n2_ n3_; clear hb hbox hg; have hcz6_0 : w5.cell? ⟨gb134, 0, none⟩ = some (.int .i64 a0_0) := (blk_cell BK134.out 0).trans rfl; have hcz6_1 : w5.cell? ⟨gb134, 1, none⟩ = some (.slice A0_1 l0_1.length c0_1) := (blk_cell BK134.out 1).trans rfl; have hfz6_0 := blk_frozen BK134.out 0; have hfz6_1 := blk_frozen BK134.out 1) | ((with_reducible refine gate_callee (f := 18) rfl ?_); refine goesL_ (some 10) rfl rfl Try.func18 (by kernel_rfl) rfl #[.agg #[.int .i64 a0_0, .slice A0_1 l0_1.length c0_1], .slice A1 l1.length c1] rfl (by (try simp only [List.map_toArray, List.map_cons, List.map_nil]); first | done | rfl | (simp only [List.length_drop, List.length_take]; rfl)) ?_; (with_reducible refine (faces_Genus.calls k a0_0 _ _ l0_1 _ _ l1 t135 t136 _ ?side1 ?side2 ?side3 ?side4 A3.out).mono ?_); (case side1 => repeat (first | exact (Kd.C_below HR0_1.out HB.out) | (with_reducible refine Kd.C_alloc ?_ _) | (with_reducible refine Kd.C_drewN ?_ _) | (with_reducible refine Kd.C_drew ?_))); (case side2 => exact HC0_1.out); (case side3 => repeat (first | exact (Kd.C_below HR1.out HB.out) | (with_reducible refine Kd.C_alloc ?_ _) | (with_reducible refine Kd.C_drewN ?_ _) | (with_reducible refine Kd.C_drew ?_))); (case side4 => exact HC1.out); rintro e w7 ⟨rfl, hb⟩; refine ⟨_, rfl, ?_⟩; have n0_ := Aside0.mk (blk_below (g := gb134) (o := .cells #[.int .i64 a0_0, .slice A0_1 l0_1.length c0_1] 24 (0, 0)) (by (with_reducible repeat (first | refine blk_drewN ?_ _ | refine blk_drew ?_ | refine blk_alloc ?_ _)); exact BK134.out) hb); have n1_ := Aside0.mk (below_step (by repeat (first | (with_reducible first | exact HB.out | apply below_alloc | apply pw_below_drewN | apply below_drew1 | refine below_set ?_ GE134.out) | exact HB.out)) hb); clear BK134; clear HB; have BK134 := n0_; have HB := n1_; clear n0_ n1_; (try clear hb); (try clear hb2); (try clear hk); (try clear hi)))
   go_ret
   exact ⟨by first | rfl | (simp [errW_none, errW_some] <;> rfl) | (simp [*, errW_none, errW_some] <;> rfl), by repeat (first | (with_reducible first | exact HB.out | apply below_alloc | apply pw_below_drewN | apply below_drew1 | refine below_set ?_ GE134.out) | exact HB.out)⟩
 · rw [if_neg c4] at H
   have c4b0 : (t136 == 0) = false := beq_eq_false_iff_ne.mpr c4
   have c4b1 : (t136 != 0) = true := bne_iff_ne.mpr c4
   obtain rfl := Option.some.inj H
   go_enter Try.func20, Try.ntmps20
   go_wp2_with (first | ((with_reducible refine gate_dst (N := 2) rfl ?_); refine box_event ?hg (N := 2) ?hd (cs := #[.int .i64 a0_0, .slice A0_1 l0_1.length c0_1]) (t := 24) ?hr ?_; (case hd => rfl); (case hg => rfl); (case hr => first | (go_simp; done) | (go_simp; rfl)); intro gb134 hg w8 hbox hb; have n0_ := Aside0.mk (below_step (by repeat (first | (with_reducible first | exact HB.out | apply below_alloc | apply pw_below_drewN | apply below_drew1) | exact HB.out)) hb); have n1_ := Aside0.mk (hbox); have n2_ := Aside0.mk ((by rw [hg]; exact (below_size (by repeat (first | (with_reducible first | exact HB.out | apply below_alloc | apply pw_below_drewN | apply below_drew1) | exact HB.out))) : w.heap.size ≤ gb134)); have n3_ := Aside0.mk ((by rw [hg]; exact (below_size (by repeat (first | (with_reducible first | exact HB.out | apply below_alloc | apply pw_below_drewN | apply below_drew1) | exact HB.out))) : w.heap.size ≤ gb134)); clear HB; have HB := n0_; have BK134 := n1_; have GW134 := n2_; have GE134 := n3_; clear n0_ n1_ n2_ n3_; clear hb hbox hg; have hcz9_0 : w8.cell? ⟨gb134, 0, none⟩ = some (.int .i64 a0_0) := (blk_cell BK134.out 0).trans rfl; have hcz9_1 : w8.cell? ⟨gb134, 1, none⟩ = some (.slice A0_1 l0_1.length c0_1) := (blk_cell BK134.out 1).trans rfl; have hfz9_0 := blk_frozen BK134.out 0; have hfz9_1 := blk_frozen BK134.out 1) | ((with_reducible refine gate_callee (f := 18) rfl ?_); refine goesL_ (some 10) rfl rfl Try.func18 (by kernel_rfl) rfl #[.agg #[.int .i64 a0_0, .slice A0_1 l0_1.length c0_1], .slice A1 l1.length c1] rfl (by (try simp only [List.map_toArray, List.map_cons, List.map_nil]); first | done | rfl | (simp only [List.length_drop, List.length_take]; rfl)) ?_; (with_reducible refine (faces_Genus.calls k a0_0 _ _ l0_1 _ _ l1 t135 t136 _ ?side1 ?side2 ?side3 ?side4 A3.out).mono ?_); (case side1 => repeat (first | exact (Kd.C_below HR0_1.out HB.out) | (with_reducible refine Kd.C_alloc ?_ _) | (with_reducible refine Kd.C_drewN ?_ _) | (with_reducible refine Kd.C_drew ?_))); (case side2 => exact HC0_1.out); (case side3 => repeat (first | exact (Kd.C_below HR1.out HB.out) | (with_reducible refine Kd.C_alloc ?_ _) | (with_reducible refine Kd.C_drewN ?_ _) | (with_reducible refine Kd.C_drew ?_))); (case side4 => exact HC1.out); rintro e w10 ⟨rfl, hb⟩; refine ⟨_, rfl, ?_⟩; have n0_ := Aside0.mk (blk_below (g := gb134) (o := .cells #[.int .i64 a0_0, .slice A0_1 l0_1.length c0_1] 24 (0, 0)) (by (with_reducible repeat (first | refine blk_drewN ?_ _ | refine blk_drew ?_ | refine blk_alloc ?_ _)); exact BK134.out) hb); have n1_ := Aside0.mk (below_step (by repeat (first | (with_reducible first | exact HB.out | apply below_alloc | apply pw_below_drewN | apply below_drew1 | refine below_set ?_ GE134.out) | exact HB.out)) hb); clear BK134; clear HB; have BK134 := n0_; have HB := n1_; clear n0_ n1_; (try clear hb); (try clear hb2); (try clear hk); (try clear hi)))
   go_ret
   exact ⟨by first | rfl | (simp [errW_none, errW_some] <;> rfl) | (simp [*, errW_none, errW_some] <;> rfl), by repeat (first | (with_reducible first | exact HB.out | apply below_alloc | apply pw_below_drewN | apply below_drew1 | refine below_set ?_ GE134.out) | exact HB.out)⟩
end Go.Proofs.Ytmikcfddipldnaa.GAll
namespace Go.Proofs.Ytmikcfddipldnaa.GAll
open Go.RowKit Go.Proofs.YtmikcfddipldnaaW.PrintWords Go.Proofs.YtmikcfddipldnaaW.PrintLast Go.Proofs.YtmikcfddipldnaaW.PrintMore
attribute [local go_sem] max2_int min2_int max_two min_two max_three min_three max_four min_four   -- for this text's walks alone
set_option linter.unusedVariables false
set_option linter.unusedSimpArgs false
def tangramlaw12_triangle.f  : Option (Int × (List (S56)) × (List (List Int))) := some (3, (([(⟨0, 1⟩ : S56), (⟨0, 2⟩ : S56), (⟨1, 2⟩ : S56)] : List (S56))), (([(([0, 2] : List Int)), (([1, 4] : List Int)), (([3, 5] : List Int))] : List (List Int))))
set_option maxHeartbeats 8000000 in
set_option maxRecDepth 100000 in
theorem tangramlaw12_triangle.calls  (r1 : Int) (r2 : List (S56)) (r3 : List (List Int)) (w : World) (h : tangramlaw12_triangle.f  = some (r1, r2, r3)) :
   Calls Try.prog 30 #[] w fun e w' => ∃ v1_ v2_ : Value, e = .returned (.tuple #[.agg #[.int .i64 r1, v1_], v2_]) ∧ Kd.R k56 56 w' w.heap.size (fun k_ => (w.heap.size ≤ k_)) v1_ r2 ∧ Kd.N (Kd.slice 3 (Kd.int .i64)) 36 w' w.heap.size (fun k_ => (w.heap.size ≤ k_) ∧ some k_ ≠ (v1_ : Value).ownBlock) v2_ r3 ∧ Below w.heap.size w w' := by
 have hu24 := Try.underlying24
 have hu56 := Try.underlying56
 have HB := Aside0.mk (Below.refl w.heap.size w)
 have H : (some (3, (([(⟨0, 1⟩ : S56), (⟨0, 2⟩ : S56), (⟨1, 2⟩ : S56)] : List (S56))), (([(([0, 2] : List Int)), (([1, 4] : List Int)), (([3, 5] : List Int))] : List (List Int))))) = some (r1, r2, r3) := h
 clear h
 obtain ⟨y138, hy138⟩ : ∃ y_ : List (S56), y_ = (([(⟨0, 1⟩ : S56), (⟨0, 2⟩ : S56), (⟨1, 2⟩ : S56)] : List (S56))) := ⟨_, rfl⟩
 replace H : (some (3, y138, (([(([0, 2] : List Int)), (([1, 4] : List Int)), (([3, 5] : List Int))] : List (List Int))))) = some (r1, r2, r3) := by first | (rw [hy138]; with_reducible exact H) | (have H2_ := (Option.bind_some _ _).symm.trans H; rw [hy138]; with_reducible exact H2_) | (have H2_ := (Option.bind_some _ _).symm.trans H; with_reducible exact H2_) | with_reducible exact H | (rw [hy138]; exact H) | exact H
 have Ny138 := Aside0.mk hy138
 clear hy138
 obtain ⟨y141, hy141⟩ : ∃ y_ : List Int, y_ = (([0, 2] : List Int)) := ⟨_, rfl⟩
 replace H : (some (3, y138, (([y141, (([1, 4] : List Int)), (([3, 5] : List Int))] : List (List Int))))) = some (r1, r2, r3) := by first | (rw [hy141]; with_reducible exact H) | (have H2_ := (Option.bind_some _ _).symm.trans H; rw [hy141]; with_reducible exact H2_) | (have H2_ := (Option.bind_some _ _).symm.trans H; with_reducible exact H2_) | with_reducible exact H | (rw [hy141]; exact H) | exact H
 have Ny141 := Aside0.mk hy141
 clear hy141
 obtain ⟨y144, hy144⟩ : ∃ y_ : List Int, y_ = (([1, 4] : List Int)) := ⟨_, rfl⟩
 replace H : (some (3, y138, (([y141, y144, (([3, 5] : List Int))] : List (List Int))))) = some (r1, r2, r3) := by first | (rw [hy144]; with_reducible exact H) | (have H2_ := (Option.bind_some _ _).symm.trans H; rw [hy144]; with_reducible exact H2_) | (have H2_ := (Option.bind_some _ _).symm.trans H; with_reducible exact H2_) | with_reducible exact H | (rw [hy144]; exact H) | exact H
 have Ny144 := Aside0.mk hy144
 clear hy144
 obtain ⟨y147, hy147⟩ : ∃ y_ : List Int, y_ = (([3, 5] : List Int)) := ⟨_, rfl⟩
 replace H : (some (3, y138, (([y141, y144, y147] : List (List Int))))) = some (r1, r2, r3) := by first | (rw [hy147]; with_reducible exact H) | (have H2_ := (Option.bind_some _ _).symm.trans H; rw [hy147]; with_reducible exact H2_) | (have H2_ := (Option.bind_some _ _).symm.trans H; with_reducible exact H2_) | with_reducible exact H | (rw [hy147]; exact H) | exact H
 have Ny147 := Aside0.mk hy147
 clear hy147
 obtain ⟨y150, hy150⟩ : ∃ y_ : List (List Int), y_ = (([y141, y144, y147] : List (List Int))) := ⟨_, rfl⟩
 replace H : (some (3, y138, y150)) = some (r1, r2, r3) := by first | (rw [hy150]; with_reducible exact H) | (have H2_ := (Option.bind_some _ _).symm.trans H; rw [hy150]; with_reducible exact H2_) | (have H2_ := (Option.bind_some _ _).symm.trans H; with_reducible exact H2_) | with_reducible exact H | (rw [hy150]; exact H) | exact H
 have Ny150 := Aside0.mk hy150
 clear hy150
 simp only [Option.some.injEq, Prod.mk.injEq] at H
 obtain ⟨rfl, rfl, rfl⟩ := H
 go_enter Try.func30, Try.ntmps30
 go_wp2_with (first | ((with_reducible refine gate_dst (N := 0) rfl ?_); refine box_event ?hg (N := 0) ?hd (cs := #[.int .i64 0, .slice none 0 0]) (t := 24) ?hr ?_; (case hd => rfl); (case hg => rfl); (case hr => first | (go_simp; done) | (go_simp; rfl)); intro gb137 hg w1 hbox hb; have n0_ := Aside0.mk (below_step (by repeat (first | (with_reducible first | exact HB.out | apply below_alloc | apply pw_below_drewN | apply below_drew1) | exact HB.out)) hb); have n1_ := Aside0.mk (hbox); have n2_ := Aside0.mk ((by rw [hg]; exact (below_size (by repeat (first | (with_reducible first | exact HB.out | apply below_alloc | apply pw_below_drewN | apply below_drew1) | exact HB.out))) : w.heap.size ≤ gb137)); have n3_ := Aside0.mk ((by rw [hg]; exact (below_size (by repeat (first | (with_reducible first | exact HB.out | apply below_alloc | apply pw_below_drewN | apply below_drew1) | exact HB.out))) : w.heap.size ≤ gb137)); clear HB; have HB := n0_; have BK137 := n1_; have GW137 := n2_; have GE137 := n3_; clear n0_ n1_ n2_ n3_; clear hb hbox hg) | ((with_reducible refine gate_dst (N := 5) rfl ?_); refine Kd.R_lit k56 _ 56 ?hg (N := 5) ?hd (xs := ([(⟨0, 1⟩ : S56), (⟨0, 2⟩ : S56), (⟨1, 2⟩ : S56)] : List (S56))) (inner := [.int .i64 0, .int .i64 1, .int .i64 0, .int .i64 2, .int .i64 1, .int .i64 2]) (ok := fun _ => True) (okp := fun _ => True) ?hr ?hp (fun _ hk => hk) trivial (Below.refl _ _) (Nat.le_refl _) (by simp) ?_; (case hd => rfl); (case hg => rfl); (case hr => first | (go_simp; done) | (go_simp; rfl)); (case hp => exact (Reps.c2 (show Kd.M k56 _ _ _ (⟨0, 1⟩ : S56) [.int .i64 0, .int .i64 1] from (k56_mkM _ _ _ (⟨0, 1⟩ : S56) )) (Reps.c2 (show Kd.M k56 _ _ _ (⟨0, 2⟩ : S56) [.int .i64 0, .int .i64 2] from (k56_mkM _ _ _ (⟨0, 2⟩ : S56) )) (Reps.c2 (show Kd.M k56 _ _ _ (⟨1, 2⟩ : S56) [.int .i64 1, .int .i64 2] from (k56_mkM _ _ _ (⟨1, 2⟩ : S56) )) (Reps.none _ _))))); intro v139 w2 ho3 hb hg_ hnew_; clear hg_ hnew_; (first | rw [← Ny138.out] at ho3 | (simp only [Int.reduceToNat] at ho3; rw [← Ny138.out] at ho3)); have n0_ := Aside0.mk (Kd.R_lower (Kd.R_newM (M := fun k_ => (w.heap.size ≤ k_)) ho3 (below_size (by repeat (first | (with_reducible first | exact HB.out | apply below_alloc | apply pw_below_drewN | apply below_drew1 | refine below_set ?_ GE137.out) | exact HB.out))) (fun k_ h_ => h_)) (below_size (by repeat (first | (with_reducible first | exact HB.out | apply below_alloc | apply pw_below_drewN | apply below_drew1 | refine below_set ?_ GE137.out) | exact HB.out)))); have n1_ := Aside0.mk (blk_below (g := gb137) (o := .cells #[.int .i64 0, .slice none 0 0] 24 (0, 0)) (by (with_reducible repeat (first | refine blk_drewN ?_ _ | refine blk_drew ?_ | refine blk_alloc ?_ _)); exact BK137.out) hb); have n2_ := Aside0.mk (below_step (by repeat (first | (with_reducible first | exact HB.out | apply below_alloc | apply pw_below_drewN | apply below_drew1 | refine below_set ?_ GE137.out) | exact HB.out)) hb); clear BK137; clear HB; have HO140 := n0_; have BK137 := n1_; have HB := n2_; clear n0_ n1_ n2_; clear hb ho3; obtain ⟨Ao4, co4, eo4⟩ := Kd.R_slice HO140.out; subst eo4) | ((with_reducible refine gate_dst (N := 7) rfl ?_); refine Kd.R_lit (Kd.int .i64) _ 3 ?hg (N := 7) ?hd (xs := ([0, 2] : List Int)) (inner := [.int .i64 0, .int .i64 2]) (ok := fun _ => True) (okp := fun _ => True) ?hr ?hp (fun _ hk => hk) trivial (Below.refl _ _) (Nat.le_refl _) (by simp) ?_; (case hd => rfl); (case hg => rfl); (case hr => first | (go_simp; done) | (go_simp; rfl)); (case hp => exact (Reps.one (show Kd.M (Kd.int .i64) _ _ _ 0 [.int .i64 0] from rfl) (Reps.one (show Kd.M (Kd.int .i64) _ _ _ 2 [.int .i64 2] from rfl) (Reps.none _ _)))); intro v142 w5 ho6 hb hg_ hnew_; clear hg_ hnew_; (first | rw [← Ny141.out] at ho6 | (simp only [Int.reduceToNat] at ho6; rw [← Ny141.out] at ho6)); have n0_ := Aside0.mk (Kd.R_below (by (with_reducible repeat (first | apply Kd.R_alloc | apply Kd.R_drewN | apply Kd.R_drew)); exact HO140.out) hb); have n1_ := Aside0.mk (Kd.R_lower (Kd.R_newM (M := fun k_ => (w.heap.size ≤ k_)) ho6 (below_size (by repeat (first | (with_reducible first | exact HB.out | apply below_alloc | apply pw_below_drewN | apply below_drew1 | refine below_set ?_ GE137.out) | exact HB.out))) (fun k_ h_ => h_)) (below_size (by repeat (first | (with_reducible first | exact HB.out | apply below_alloc | apply pw_below_drewN | apply below_drew1 | refine below_set ?_ GE137.out) | exact HB.out)))); have n2_ := Aside0.mk (blk_below (g := gb137) (o := .cells #[.int .i64 0, .slice none 0 0] 24 (0, 0)) (by (with_reducible repeat (first | refine blk_drewN ?_ _ | refine blk_drew ?_ | refine blk_alloc ?_ _)); exact BK137.out) hb); have n3_ := Aside0.mk (below_step (by repeat (first | (with_reducible first | exact HB.out | apply below_alloc | apply pw_below_drewN | apply below_drew1 | refine below_set ?_ GE137.out) | exact HB.out)) hb); clear HO140; clear BK137; clear HB; have HO140 := n0_; have HO143 := n1_; have BK137 := n2_; have HB := n3_; clear n0_ n1_ n2_ n3_; clear hb ho6) | ((with_reducible refine gate_dst (N := 8) rfl ?_); refine Kd.R_lit (Kd.int .i64) _ 3 ?hg (N := 8) ?hd (xs := ([1, 4] : List Int)) (inner := [.int .i64 1, .int .i64 4]) (ok := fun _ => True) (okp := fun _ => True) ?hr ?hp (fun _ hk => hk) trivial (Below.refl _ _) (Nat.le_refl _) (by simp) ?_; (case hd => rfl); (case hg => rfl); (case hr => first | (go_simp; done) | (go_simp; rfl)); (case hp => exact (Reps.one (show Kd.M (Kd.int .i64) _ _ _ 1 [.int .i64 1] from rfl) (Reps.one (show Kd.M (Kd.int .i64) _ _ _ 4 [.int .i64 4] from rfl) (Reps.none _ _)))); intro v145 w7 ho8 hb hg_ hnew_; clear hg_ hnew_; (first | rw [← Ny144.out] at ho8 | (simp only [Int.reduceToNat] at ho8; rw [← Ny144.out] at ho8)); have n0_ := Aside0.mk (Kd.R_below (by (with_reducible repeat (first | apply Kd.R_alloc | apply Kd.R_drewN | apply Kd.R_drew)); exact HO140.out) hb); have n1_ := Aside0.mk (Kd.R_elder' (by (with_reducible repeat (first | apply Kd.R_alloc | apply Kd.R_drewN | apply Kd.R_drew)); exact HO143.out) (Kd.R_base ho8) hb); have n2_ := Aside0.mk (Kd.R_lower (Kd.R_new' (Kd.R_newM (M := fun k_ => (w.heap.size ≤ k_)) ho8 (below_size (by repeat (first | (with_reducible first | exact HB.out | apply below_alloc | apply pw_below_drewN | apply below_drew1 | refine below_set ?_ GE137.out) | exact HB.out))) (fun k_ h_ => h_)) (Kd.R_lt (by (with_reducible repeat (first | apply Kd.R_alloc | apply Kd.R_drewN | apply Kd.R_drew)); exact HO143.out))) (below_size (by repeat (first | (with_reducible first | exact HB.out | apply below_alloc | apply pw_below_drewN | apply below_drew1 | refine below_set ?_ GE137.out) | exact HB.out)))); have n3_ := Aside0.mk (blk_below (g := gb137) (o := .cells #[.int .i64 0, .slice none 0 0] 24 (0, 0)) (by (with_reducible repeat (first | refine blk_drewN ?_ _ | refine blk_drew ?_ | refine blk_alloc ?_ _)); exact BK137.out) hb); have n4_ := Aside0.mk (below_step (by repeat (first | (with_reducible first | exact HB.out | apply below_alloc | apply pw_below_drewN | apply below_drew1 | refine below_set ?_ GE137.out) | exact HB.out)) hb); clear HO140; clear HO143; clear BK137; clear HB; have HO140 := n0_; have HO143 := n1_; have HO146 := n2_; have BK137 := n3_; have HB := n4_; clear n0_ n1_ n2_ n3_ n4_; clear hb ho8) | ((with_reducible refine gate_dst (N := 9) rfl ?_); refine Kd.R_lit (Kd.int .i64) _ 3 ?hg (N := 9) ?hd (xs := ([3, 5] : List Int)) (inner := [.int .i64 3, .int .i64 5]) (ok := fun _ => True) (okp := fun _ => True) ?hr ?hp (fun _ hk => hk) trivial (Below.refl _ _) (Nat.le_refl _) (by simp) ?_; (case hd => rfl); (case hg => rfl); (case hr => first | (go_simp; done) | (go_simp; rfl)); (case hp => exact (Reps.one (show Kd.M (Kd.int .i64) _ _ _ 3 [.int .i64 3] from rfl) (Reps.one (show Kd.M (Kd.int .i64) _ _ _ 5 [.int .i64 5] from rfl) (Reps.none _ _)))); intro v148 w9 ho10 hb hg_ hnew_; clear hg_ hnew_; (first | rw [← Ny147.out] at ho10 | (simp only [Int.reduceToNat] at ho10; rw [← Ny147.out] at ho10)); have n0_ := Aside0.mk (Kd.R_below (by (with_reducible repeat (first | apply Kd.R_alloc | apply Kd.R_drewN | apply Kd.R_drew)); exact HO140.out) hb); have n1_ := Aside0.mk (Kd.R_elder' (by (with_reducible repeat (first | apply Kd.R_alloc | apply Kd.R_drewN | apply Kd.R_drew)); exact HO143.out) (Kd.R_base ho10) hb); have n2_ := Aside0.mk (Kd.R_elder' (by (with_reducible repeat (first | apply Kd.R_alloc | apply Kd.R_drewN | apply Kd.R_drew)); exact HO146.out) (Kd.R_base ho10) hb); have n3_ := Aside0.mk (Kd.R_lower (Kd.R_new' (Kd.R_new' (Kd.R_newM (M := fun k_ => (w.heap.size ≤ k_)) ho10 (below_size (by repeat (first | (with_reducible first | exact HB.out | apply below_alloc | apply pw_below_drewN | apply below_drew1 | refine below_set ?_ GE137.out) | exact HB.out))) (fun k_ h_ => h_)) (Kd.R_lt (by (with_reducible repeat (first | apply Kd.R_alloc | apply Kd.R_drewN | apply Kd.R_drew)); exact HO143.out))) (Kd.R_lt (by (with_reducible repeat (first | apply Kd.R_alloc | apply Kd.R_drewN | apply Kd.R_drew)); exact HO146.out))) (below_size (by repeat (first | (with_reducible first | exact HB.out | apply below_alloc | apply pw_below_drewN | apply below_drew1 | refine below_set ?_ GE137.out) | exact HB.out)))); have n4_ := Aside0.mk (blk_below (g := gb137) (o := .cells #[.int .i64 0, .slice none 0 0] 24 (0, 0)) (by (with_reducible repeat (first | refine blk_drewN ?_ _ | refine blk_drew ?_ | refine blk_alloc ?_ _)); exact BK137.out) hb); have n5_ := Aside0.mk (below_step (by repeat (first | (with_reducible first | exact HB.out | apply below_alloc | apply pw_below_drewN | apply below_drew1 | refine below_set ?_ GE137.out) | exact HB.out)) hb); clear HO140; clear HO143; clear HO146; clear BK137; clear HB; have HO140 := n0_; have HO143 := n1_; have HO146 := n2_; have HO149 := n3_; have BK137 := n4_; have HB := n5_; clear n0_ n1_ n2_ n3_ n4_ n5_; clear hb ho10; obtain ⟨Ao11, co11, eo11⟩ := Kd.R_slice HO143.out; subst eo11; obtain ⟨Ao12, co12, eo12⟩ := Kd.R_slice HO146.out; subst eo12; obtain ⟨Ao13, co13, eo13⟩ := Kd.R_slice HO149.out; subst eo13) | ((with_reducible refine gate_dst (N := 10) rfl ?_); refine Kd.N_lit (Kd.slice 3 (Kd.int .i64)) _ 36 ?hg (N' := 10) ?hd (xs := ([y141, y144, y147] : List (List Int))) (inner := [.slice Ao11 y141.length co11, .slice Ao12 y144.length co12, .slice Ao13 y147.length co13]) (ok := (fun k_ => (w.heap.size ≤ k_) ∧ some k_ ≠ (.slice Ao4 y138.length co4 : Value).ownBlock ∧ k_ ≠ gb137)) (okp := (fun k_ => (w.heap.size ≤ k_) ∧ some k_ ≠ (.slice Ao4 y138.length co4 : Value).ownBlock ∧ k_ ≠ gb137)) ?hr ?hp (fun _ hk => hk) ((show ∀ k_, w9.heap.size ≤ k_ → (fun k_ => (w.heap.size ≤ k_) ∧ some k_ ≠ (.slice Ao4 y138.length co4 : Value).ownBlock ∧ k_ ≠ gb137) k_ from fun k_ hk => ⟨(Nat.le_trans (below_size (by repeat (first | (with_reducible first | exact HB.out | apply below_alloc | apply pw_below_drewN | apply below_drew1 | refine below_set ?_ GE137.out) | exact HB.out))) hk), Kd.fresh' (Kd.R_lt (by (with_reducible repeat (first | apply Kd.R_alloc | apply Kd.R_drewN | apply Kd.R_drew)); exact HO140.out)) k_ hk, Kd.freshB (g := gb137) (o := .cells #[.int .i64 0, .slice none 0 0] 24 (0, 0)) (by (with_reducible repeat (first | refine blk_drewN ?_ _ | refine blk_drew ?_ | refine blk_alloc ?_ _)); exact BK137.out) k_ hk⟩) _ (Nat.le_refl _)) (Below.refl _ _) (Nat.le_refl _) (by simp) ?_; (case hd => rfl); (case hg => rfl); (case hr => first | (go_simp; done) | (go_simp; rfl)); (case hp => exact (Reps.one (show Kd.FK (Kd.slice 3 (Kd.int .i64)) _ _ y141 [.slice Ao11 y141.length co11] from (Kd.FK_slice_mk (Kd.R_reads' (Kd.R_mono (ok' := (fun k_ => (w.heap.size ≤ k_) ∧ some k_ ≠ (.slice Ao4 y138.length co4 : Value).ownBlock ∧ k_ ≠ gb137)) (Kd.R_types (Kd.R_apart' (HO143.out) (Kd.R_typed HO140.out) (by decide)) BK137.out (by decide)) (fun k_ hk => ⟨hk.1.1.1.1.1, ⟨hk.1.2, hk.2⟩⟩))).2.1 (Kd.R_F (Kd.R_mono (ok' := (fun k_ => (w.heap.size ≤ k_) ∧ some k_ ≠ (.slice Ao4 y138.length co4 : Value).ownBlock ∧ k_ ≠ gb137)) (Kd.R_types (Kd.R_apart' (HO143.out) (Kd.R_typed HO140.out) (by decide)) BK137.out (by decide)) (fun k_ hk => ⟨hk.1.1.1.1.1, ⟨hk.1.2, hk.2⟩⟩))))) (Reps.one (show Kd.FK (Kd.slice 3 (Kd.int .i64)) _ _ y144 [.slice Ao12 y144.length co12] from (Kd.FK_slice_mk (Kd.R_reads' (Kd.R_mono (ok' := (fun k_ => (w.heap.size ≤ k_) ∧ some k_ ≠ (.slice Ao4 y138.length co4 : Value).ownBlock ∧ k_ ≠ gb137)) (Kd.R_types (Kd.R_apart' (HO146.out) (Kd.R_typed HO140.out) (by decide)) BK137.out (by decide)) (fun k_ hk => ⟨hk.1.1.1.1.1, ⟨hk.1.2, hk.2⟩⟩))).2.1 (Kd.R_F (Kd.R_mono (ok' := (fun k_ => (w.heap.size ≤ k_) ∧ some k_ ≠ (.slice Ao4 y138.length co4 : Value).ownBlock ∧ k_ ≠ gb137)) (Kd.R_types (Kd.R_apart' (HO146.out) (Kd.R_typed HO140.out) (by decide)) BK137.out (by decide)) (fun k_ hk => ⟨hk.1.1.1.1.1, ⟨hk.1.2, hk.2⟩⟩))))) (Reps.one (show Kd.FK (Kd.slice 3 (Kd.int .i64)) _ _ y147 [.slice Ao13 y147.length co13] from (Kd.FK_slice_mk (Kd.R_reads' (Kd.R_mono (ok' := (fun k_ => (w.heap.size ≤ k_) ∧ some k_ ≠ (.slice Ao4 y138.length co4 : Value).ownBlock ∧ k_ ≠ gb137)) (Kd.R_types (Kd.R_apart' (HO149.out) (Kd.R_typed HO140.out) (by decide)) BK137.out (by decide)) (fun k_ hk => ⟨hk.1.1.1.1.1, ⟨hk.1.2, hk.2⟩⟩))).2.1 (Kd.R_F (Kd.R_mono (ok' := (fun k_ => (w.heap.size ≤ k_) ∧ some k_ ≠ (.slice Ao4 y138.length co4 : Value).ownBlock ∧ k_ ≠ gb137)) (Kd.R_types (Kd.R_apart' (HO149.out) (Kd.R_typed HO140.out) (by decide)) BK137.out (by decide)) (fun k_ hk => ⟨hk.1.1.1.1.1, ⟨hk.1.2, hk.2⟩⟩))))) (Reps.none _ _))))); intro v151 w14 ho15 hb hg_ hnew_; clear hg_ hnew_; (first | rw [← Ny150.out] at ho15 | (simp only [Int.reduceToNat] at ho15; rw [← Ny150.out] at ho15)); have n0_ := Aside0.mk (Kd.R_below (by (with_reducible repeat (first | apply Kd.R_alloc | apply Kd.R_drewN | apply Kd.R_drew)); exact HO140.out) hb); have n1_ := Aside0.mk (Kd.N_lower ho15 (below_size (by repeat (first | (with_reducible first | exact HB.out | apply below_alloc | apply pw_below_drewN | apply below_drew1 | refine below_set ?_ GE137.out) | exact HB.out)))); have n2_ := Aside0.mk (blk_below (g := gb137) (o := .cells #[.int .i64 0, .slice none 0 0] 24 (0, 0)) (by (with_reducible repeat (first | refine blk_drewN ?_ _ | refine blk_drew ?_ | refine blk_alloc ?_ _)); exact BK137.out) hb); have n3_ := Aside0.mk (below_step (by repeat (first | (with_reducible first | exact HB.out | apply below_alloc | apply pw_below_drewN | apply below_drew1 | refine below_set ?_ GE137.out) | exact HB.out)) hb); clear HO140; clear BK137; clear HB; clear HO143; clear HO146; clear HO149; have HO140 := n0_; have HO152 := n1_; have BK137 := n2_; have HB := n3_; clear n0_ n1_ n2_ n3_; clear hb ho15; have hcz16_0 : w14.cell? ⟨gb137, 0, none⟩ = some (.int .i64 0) := (blk_cell BK137.out 0).trans rfl; have hcz16_1 : w14.cell? ⟨gb137, 1, none⟩ = some (.slice none 0 0) := (blk_cell BK137.out 1).trans rfl; have hfz16_0 := blk_frozen BK137.out 0; have hfz16_1 := blk_frozen BK137.out 1))
 refine bodyPost_ret (results_ct rfl _ _ gb137 24 #[.int .i64 3, .slice Ao4 y138.length co4] (0, 0) _ rfl (by (with_reducible repeat (first | refine blk_drewN ?_ _ | refine blk_drew ?_ | refine blk_alloc ?_ _)); refine blk_put (cs := #[.int .i64 3, .slice none 0 0]) ?_ 1 _ rfl; (with_reducible repeat (first | refine blk_drewN ?_ _ | refine blk_drew ?_ | refine blk_alloc ?_ _)); refine blk_put (cs := #[.int .i64 0, .slice none 0 0]) ?_ 0 _ rfl; (with_reducible repeat (first | refine blk_drewN ?_ _ | refine blk_drew ?_ | refine blk_alloc ?_ _)); exact BK137.out) Try.underlying24 rfl (by kernel_rfl)) rfl ?_
 exact ⟨_, _, by first | rfl | (simp [errW_none, errW_some] <;> rfl) | (simp [*, errW_none, errW_some] <;> rfl), by (with_reducible repeat (first | apply Kd.R_alloc | apply Kd.R_drewN | apply Kd.R_drew)); exact Kd.R_mono (Kd.R_far (p := ⟨gb137, 1, none⟩) (Kd.R_far (p := ⟨gb137, 0, none⟩) (Kd.R_types HO140.out BK137.out (by decide)) (fun _ hk => hk.2) (.int .i64 3)) (fun _ hk => hk.2) (.slice Ao4 y138.length co4)) (fun _ hk => hk.1.1), by (with_reducible repeat (first | apply Kd.N_alloc | apply Kd.N_drewN | apply Kd.N_drew)); exact Kd.N_mono (Kd.N_far (p := ⟨gb137, 1, none⟩) (Kd.N_far (p := ⟨gb137, 0, none⟩) (Kd.N_mono HO152.out (fun k_ hk => (⟨hk, hk.2.2⟩ : _ ∧ k_ ≠ gb137))) (fun _ hk => hk.2) (.int .i64 3)) (fun _ hk => hk.2) (.slice Ao4 y138.length co4)) (fun _ hk => ⟨hk.1.1, hk.1.2.1⟩), by repeat (first | (with_reducible first | exact HB.out | apply below_alloc | apply pw_below_drewN | apply below_drew1 | refine below_set ?_ GE137.out) | exact HB.out)⟩
end Go.Proofs.Ytmikcfddipldnaa.GAll
namespace Go.Proofs.Ytmikcfddipldnaa.GAll
open Go.RowKit Go.Proofs.YtmikcfddipldnaaW.PrintWords Go.Proofs.YtmikcfddipldnaaW.PrintLast Go.Proofs.YtmikcfddipldnaaW.PrintMore
attribute [local go_sem] max2_int min2_int max_two min_two max_three min_three max_four min_four   -- for this text's walks alone
set_option linter.unusedVariables false
set_option linter.unusedSimpArgs false
def tangramlaw12_wakes.r : List (List Int) := [[0, 2], [1, 4], [3, 5]]
def tangramlaw12_wakes.es : List S56 := [⟨0, 1⟩, ⟨0, 2⟩, ⟨1, 2⟩]
set_option maxRecDepth 100000 in
theorem tangramlaw12_wakes.c0 : tangramlaw12_triangle.f = some (3, tangramlaw12_wakes.es, tangramlaw12_wakes.r) := by kernel_rfl
set_option maxRecDepth 100000 in
theorem tangramlaw12_wakes.c1 : faces_Of.f 40 3 tangramlaw12_wakes.es tangramlaw12_wakes.r = some ([[0, 4, 3], [1, 2, 5]], 0) := by kernel_rfl
set_option maxRecDepth 100000 in
theorem tangramlaw12_wakes.c2 : faces_Left.f 40 3 tangramlaw12_wakes.es tangramlaw12_wakes.r = some ([0, 1, 1, 0, 0, 1], 0) := by kernel_rfl
set_option maxRecDepth 100000 in
theorem tangramlaw12_wakes.c3 : faces_Genus.f 40 3 tangramlaw12_wakes.es tangramlaw12_wakes.r = some (0, 0) := by kernel_rfl
set_option maxRecDepth 100000 in
theorem tangramlaw12_wakes.c4 : faces_Of.f 40 3 tangramlaw12_wakes.es (tangramlaw12_wakes.r.take 2) = some ([], 110) := by kernel_rfl
set_option maxRecDepth 100000 in
theorem tangramlaw12_wakes.c5 : faces_Flat.f 40 3 tangramlaw12_wakes.es tangramlaw12_wakes.r = some true := by kernel_rfl
theorem tangramlaw12_wakes.s1 : tangramref03_SameLists.f 40 [[0, 4, 3], [1, 2, 5]] [[0, 4, 3], [1, 2, 5]] = some true := by kernel_rfl
theorem tangramlaw12_wakes.s2 : tangramref03_SameInts.f 40 [0, 1, 1, 0, 0, 1] [0, 1, 1, 0, 0, 1] = some true := by kernel_rfl
def tangramlaw12_wakes.f : Option Bool := some true
set_option maxHeartbeats 4000000 in
set_option maxRecDepth 100000 in
theorem tangramlaw12_wakes.calls (r : Bool) (w : World) (h : tangramlaw12_wakes.f = some r) :
   Calls Try.prog 9 #[] w fun e w' => e = .returned (.bool r) ∧ Below w.heap.size w w' := by
 obtain rfl : true = r := by simpa [tangramlaw12_wakes.f] using h
 clear h
 go_enter Try.func9, Try.ntmps9
 go_wp2_with fail
 refine (tangramlaw12_triangle.calls _ _ _ w tangramlaw12_wakes.c0).mono ?_
 rintro e w1 ⟨v1, v2, rfl, hR, hN, hb⟩
 have HB1 := Aside0.mk hb
 obtain ⟨A, c, rfl, hc, hC⟩ := Kd.R_reads hR
 obtain ⟨A1, c1, rfl, hc1, hC1⟩ := Kd.N_reads hN
 have HC1 := Aside0.mk hC
 have HL := Aside0.mk hc
 have HD1 := Aside0.mk hC1
 have HL1 := Aside0.mk hc1
 clear hb hR hN hC hC1 hc hc1
 have HX1 : Aside0 ((w1.alloc (.cells #[.int .i64 3, .slice A tangramlaw12_wakes.es.length c] 24 (0, 0))).heap[w1.heap.size]? = some (.cells #[.int .i64 3, .slice A tangramlaw12_wakes.es.length c] 24 (0, 0))) := ⟨Mem.heap_last w1 _⟩
 have hb : Below w1.heap.size w1 (w1.alloc (.cells #[.int .i64 3, .slice A tangramlaw12_wakes.es.length c] 24 (0, 0))) := (Below.refl _ _).alloc (Nat.le_refl _) _
 have HB2 := Aside0.mk (HB1.out.trans (hb.mono HB1.out.size))
 have HC2 := Aside0.mk (Kd.C_below HC1.out hb)
 have HD2 := Aside0.mk (Kd.C_below HD1.out hb)
 have x0 : (w1.alloc (.cells #[.int .i64 3, .slice A tangramlaw12_wakes.es.length c] 24 (0, 0))).cell? ⟨w1.heap.size, 0, none⟩ = some (.int .i64 3) := Mem.heap_cell HX1.out rfl
 have x1 : (w1.alloc (.cells #[.int .i64 3, .slice A tangramlaw12_wakes.es.length c] 24 (0, 0))).cell? ⟨w1.heap.size, 1, none⟩ = some (.slice A tangramlaw12_wakes.es.length c) := Mem.heap_cell HX1.out rfl
 clear hb HB1 HC1 HD1
 go_wp2_with fail
 generalize w1.alloc (.cells #[.int .i64 3, .slice A tangramlaw12_wakes.es.length c] 24 (0, 0)) = w2 at HX1 HB2 HC2 HD2 x0 x1 ⊢
 obtain ⟨b, hbb⟩ : ∃ b, b = w1.heap.size := ⟨_, rfl⟩
 rw [← hbb] at HX1 x0 x1 ⊢
 clear hbb
 refine (faces_Of.calls 40 3 A c tangramlaw12_wakes.es A1 c1 tangramlaw12_wakes.r _ _ w2 HC2.out HL.out HD2.out HL1.out tangramlaw12_wakes.c1).mono ?_
 rintro e w3 ⟨v, rfl, hR, hb⟩
 have HB3 := Aside0.mk (HB2.out.trans (hb.mono HB2.out.size))
 have HX3 := Aside0.mk ((hb.block _ (Mem.lt_of HX1.out)).trans HX1.out)
 have HC3 := Aside0.mk (Kd.C_below HC2.out hb)
 have HD3 := Aside0.mk (Kd.C_below HD2.out hb)
 clear HB2 HX1 HC2 HD2
 first | clear x0 x1 | skip
 have x0 : w3.cell? ⟨b, 0, none⟩ = some (.int .i64 3) := Mem.heap_cell HX3.out rfl
 have x1 : w3.cell? ⟨b, 1, none⟩ = some (.slice A tangramlaw12_wakes.es.length c) := Mem.heap_cell HX3.out rfl
 clear hb
 obtain ⟨A3, c3, e3, hc, hC⟩ := Kd.S_reads hR
 have HR3 := Aside0.mk hC
 have HL3 := Aside0.mk hc
 clear hR hC hc
 subst e3
 go_wp2_with fail
 refine (faces_Left.calls 40 3 A c tangramlaw12_wakes.es A1 c1 tangramlaw12_wakes.r _ _ w3 HC3.out HL.out HD3.out HL1.out tangramlaw12_wakes.c2).mono ?_
 rintro e w4 ⟨v, rfl, hR, hb⟩
 have HB4 := Aside0.mk (HB3.out.trans (hb.mono HB3.out.size))
 have HX4 := Aside0.mk ((hb.block _ (Mem.lt_of HX3.out)).trans HX3.out)
 have HC4 := Aside0.mk (Kd.C_below HC3.out hb)
 have HD4 := Aside0.mk (Kd.C_below HD3.out hb)
 clear HB3 HX3 HC3 HD3
 first | clear x0 x1 | skip
 have x0 : w4.cell? ⟨b, 0, none⟩ = some (.int .i64 3) := Mem.heap_cell HX4.out rfl
 have x1 : w4.cell? ⟨b, 1, none⟩ = some (.slice A tangramlaw12_wakes.es.length c) := Mem.heap_cell HX4.out rfl
 have HR3a := Aside0.mk (Kd.C_below HR3.out hb)
 clear HR3
 clear hb
 obtain ⟨A4, c4, e4, hc, hC⟩ := Kd.R_reads hR
 have HR4 := Aside0.mk hC
 have HL4 := Aside0.mk hc
 clear hR hC hc
 subst e4
 go_wp2_with fail
 refine (faces_Genus.calls 40 3 A c tangramlaw12_wakes.es A1 c1 tangramlaw12_wakes.r _ _ w4 HC4.out HL.out HD4.out HL1.out tangramlaw12_wakes.c3).mono ?_
 rintro e w5 ⟨rfl, hb⟩
 have HB5 := Aside0.mk (HB4.out.trans (hb.mono HB4.out.size))
 have HX5 := Aside0.mk ((hb.block _ (Mem.lt_of HX4.out)).trans HX4.out)
 have HC5 := Aside0.mk (Kd.C_below HC4.out hb)
 have HD5 := Aside0.mk (Kd.C_below HD4.out hb)
 clear HB4 HX4 HC4 HD4
 first | clear x0 x1 | skip
 have x0 : w5.cell? ⟨b, 0, none⟩ = some (.int .i64 3) := Mem.heap_cell HX5.out rfl
 have x1 : w5.cell? ⟨b, 1, none⟩ = some (.slice A tangramlaw12_wakes.es.length c) := Mem.heap_cell HX5.out rfl
 have HR3b := Aside0.mk (Kd.C_below HR3a.out hb)
 clear HR3a
 have HR4a := Aside0.mk (Kd.C_below HR4.out hb)
 clear HR4
 clear hb x0 x1
 have hX := Mem.C_take (a := 2) HD5.out HL1.out (by decide)
 have hXe : (if c1 = 0 then A1 else A1.map (·.add (0 * Mem.KR.sz))) = A1 := by
   rw [Nat.zero_mul]
   cases A1 <;> simp [Addr.add_zero']
 rw [hXe] at hX
 have HXC : Aside0 (Kd.C Mem.KR w5 A1 (tangramlaw12_wakes.r.take 2).length (tangramlaw12_wakes.r.take 2)) := ⟨hX⟩
 have hle : (2 : Int) ≤ (c1 : Int) := by
   have : 3 ≤ c1 := HL1.out
   omega
 clear hX hXe
 go_upto_region 5 with (fail)
 have hb : Below w5.heap.size w5 w5.drew := (Below.refl _ _).drew
 have HD5 := HD5
 have E0 : Aside0 (w5.drew.cell? ⟨b, 0, none⟩ = some (.int .i64 3)) := ⟨Mem.heap_cell (w := w5) HX5.out rfl⟩
 have E1 : Aside0 (w5.drew.cell? ⟨b, 1, none⟩ = some (.slice A tangramlaw12_wakes.es.length c)) := ⟨Mem.heap_cell (w := w5) HX5.out rfl⟩
 have HC5d := Aside0.mk (Kd.C_below HC5.out hb)
 have HXd := Aside0.mk (Kd.C_below HXC.out hb)
 clear hb HXC
 refine start_ (n := 9) (S := fun w' => w'.cell? ⟨b, 0, none⟩ = some (.int .i64 3) ∧ w'.cell? ⟨b, 1, none⟩ = some (.slice A tangramlaw12_wakes.es.length c)) (ds := [3]) #[false, false, false, false, false, false, false, false, false] (by kernel_rfl) rfl rfl ⟨E0.out, E1.out⟩ (fun hHeld => ?_)
 refine pure_ (i := 1) (N := some 35) (v := ?_) (a' := ?_) #[false, true, false, false, false, false, false, false, false] rfl rfl (by kernel_rfl) (fun _ _ _ h => h) (Or.inl ⟨by rfl, ?_⟩) ?_ ?_
 rotate_left
 · intro w'
   go_simp
   with_reducible rfl
 rotate_left
 · simp only [Act.put, List.setIfInBounds_toArray, List.set_cons_zero, List.set_cons_succ, i64_w, i32_w]
   rfl
 refine pure_ (i := 2) (N := some 36) (v := ?_) (a' := ?_) #[false, true, true, false, false, false, false, false, false] rfl rfl (by kernel_rfl) (fun _ _ _ h => h) (Or.inl ⟨by rfl, ?_⟩) ?_ ?_
 rotate_left
 · intro w'
   go_simp
   with_reducible rfl
 rotate_left
 · simp only [Act.put, List.setIfInBounds_toArray, List.set_cons_zero, List.set_cons_succ, i64_w, i32_w]
   rfl
 refine take_ (i := 0) (N := some 34) (v := ?_) (a' := ?_) #[true, true, true, false, false, false, false, false, false] rfl rfl (by kernel_rfl) (fun _ _ _ h => h) (Or.inl ⟨by rfl, ?_⟩) hHeld ?_ ?_
 rotate_left
 · rintro w' ⟨s0, s1⟩
   go_simp
   with_reducible rfl
 rotate_left
 · simp only [Act.put, List.setIfInBounds_toArray, List.set_cons_zero, List.set_cons_succ, i64_w, i32_w]
   rfl
 refine last_ (i := 3) (N := some 37) #[true, true, true, true, false, false, false, false, false] rfl rfl (by kernel_rfl) (by decide) (fun K hK => ?_)
 refine goes_ Try.func10 (by kernel_rfl) rfl #[.agg #[.int .i64 3, .slice A tangramlaw12_wakes.es.length c], .slice A1 (tangramlaw12_wakes.r.take 2).length c1] (by rfl) rfl rfl (by simp only [List.map_toArray, List.map_cons, List.map_nil]; rfl) ?_
 with_reducible refine (faces_Of.calls 40 3 A c tangramlaw12_wakes.es A1 c1 (tangramlaw12_wakes.r.take 2) _ _ w5.drew HC5d.out HL.out HXd.out (Nat.le_trans (by decide) HL1.out) tangramlaw12_wakes.c4).mono ?_
 rintro e w6 ⟨v6, rfl, hR6, hb6⟩
 refine ⟨_, rfl, ?_⟩
 have HBq := Aside0.mk hb6
 clear hR6 hb6
 refine hK.out _ _ ?_
 clear hK K
 refine norm_ (a' := ?_) ?_ ?_
 rotate_left
 · show Act.put _ (some 37) _ = _
   simp only [Act.put, List.setIfInBounds_toArray, List.set_cons_zero, List.set_cons_succ, i64_w, i32_w]
   rfl
 refine pure_ (i := 4) (N := some 33) (v := ?_) (a' := ?_) #[true, true, true, true, true, false, false, false, false] rfl rfl (by kernel_rfl) (fun _ _ _ h => h) (Or.inl ⟨by rfl, ?_⟩) ?_ ?_
 rotate_left
 · intro w'
   go_simp
   with_reducible rfl
 rotate_left
 · simp only [Act.put, List.setIfInBounds_toArray, List.set_cons_zero, List.set_cons_succ, i64_w, i32_w]
   rfl
 refine pure_ (i := 5) (N := some 38) (v := ?_) (a' := ?_) #[true, true, true, true, true, true, false, false, false] rfl rfl (by kernel_rfl) (fun _ _ _ h => h) (Or.inl ⟨by rfl, ?_⟩) ?_ ?_
 rotate_left
 · intro w'
   go_simp
   with_reducible rfl
 rotate_left
 · simp only [Act.put, List.setIfInBounds_toArray, List.set_cons_zero, List.set_cons_succ, i64_w, i32_w]
   rfl
 refine pure_ (i := 6) (N := some 39) (v := ?_) (a' := ?_) #[true, true, true, true, true, true, true, false, false] rfl rfl (by kernel_rfl) (fun _ _ _ h => h) (Or.inl ⟨by rfl, ?_⟩) ?_ ?_
 rotate_left
 · intro w'
   go_simp
   with_reducible rfl
 rotate_left
 · simp only [Act.put, List.setIfInBounds_toArray, List.set_cons_zero, List.set_cons_succ, i64_w, i32_w]
   rfl
 refine pure_ (i := 7) (N := some 9) (v := ?_) (a' := ?_) #[true, true, true, true, true, true, true, true, false] rfl rfl (by kernel_rfl) (fun _ _ _ h => h) (Or.inl ⟨by rfl, ?_⟩) ?_ ?_
 rotate_left
 · intro w'
   go_simp
   with_reducible rfl
 rotate_left
 · simp only [Act.put, List.setIfInBounds_toArray, List.set_cons_zero, List.set_cons_succ, i64_w, i32_w]
   rfl
 refine pure_ (i := 8) (N := some 10) (v := ?_) (a' := ?_) #[true, true, true, true, true, true, true, true, true] rfl rfl (by kernel_rfl) (fun _ _ _ h => h) (Or.inl ⟨by rfl, ?_⟩) ?_ ?_
 rotate_left
 · intro w'
   go_simp
   with_reducible rfl
 rotate_left
 · simp only [Act.put, List.setIfInBounds_toArray, List.set_cons_zero, List.set_cons_succ, i64_w, i32_w]
   rfl
 refine done_ (by kernel_rfl) ?_
 have hb : Below w5.heap.size w5 w6 := (((Below.refl w5.heap.size w5).drew).trans HBq.out)
 have HB6 := Aside0.mk (HB5.out.trans (hb.mono HB5.out.size))
 have HX6 := Aside0.mk ((hb.block _ (Mem.lt_of HX5.out)).trans HX5.out)
 have HC6 := Aside0.mk (Kd.C_below HC5.out hb)
 have HD6 := Aside0.mk (Kd.C_below HD5.out hb)
 clear HB5 HX5 HC5 HD5
 first | clear x0 x1 | skip
 have x0 : w6.cell? ⟨b, 0, none⟩ = some (.int .i64 3) := Mem.heap_cell HX6.out rfl
 have x1 : w6.cell? ⟨b, 1, none⟩ = some (.slice A tangramlaw12_wakes.es.length c) := Mem.heap_cell HX6.out rfl
 have HR3c := Aside0.mk (Kd.C_below HR3b.out hb)
 clear HR3b
 have HR4b := Aside0.mk (Kd.C_below HR4a.out hb)
 clear HR4a
 clear hb HBq hle HXd HC5d E0 E1
 go_wp2_with fail
 refine (faces_Flat.calls 40 3 A c tangramlaw12_wakes.es A1 c1 tangramlaw12_wakes.r _ w6 HC6.out HL.out HD6.out HL1.out tangramlaw12_wakes.c5).mono ?_
 rintro e w7 ⟨rfl, hb⟩
 have HB7 := Aside0.mk (HB6.out.trans (hb.mono HB6.out.size))
 have HR3d := Aside0.mk (Kd.C_below HR3c.out hb)
 clear HR3c
 have HR4c := Aside0.mk (Kd.C_below HR4b.out hb)
 clear HR4b
 clear hb x0 x1 HB6 HX6 HC6 HD6
 have HQ8 : Aside0 (Kd.C Mem.KR ((Mem.lits w7 [[0, 4, 3], [1, 2, 5]]).alloc (.cells (Mem.outer w7.heap.size [[0, 4, 3], [1, 2, 5]]).toArray 36 (0, 0))) (some ⟨w7.heap.size + 1 + 1, 0, none⟩) 2 [[0, 4, 3], [1, 2, 5]]) := ⟨Mem.lits_reads w7 [[0, 4, 3], [1, 2, 5]] (by decide) (by decide)⟩
 have hb := Mem.lits_all w7 [[0, 4, 3], [1, 2, 5]]
 have HB8 := Aside0.mk (HB7.out.trans (hb.mono HB7.out.size))
 have HR3e := Aside0.mk (Kd.C_below HR3d.out hb)
 clear HR3d
 have HR4d := Aside0.mk (Kd.C_below HR4c.out hb)
 clear HR4c
 clear hb HB7
 go_wp2_with fail
 show Calls _ _ _ ((Mem.lits w7 [[0, 4, 3], [1, 2, 5]]).alloc (.cells (Mem.outer w7.heap.size [[0, 4, 3], [1, 2, 5]]).toArray 36 (0, 0))) _
 generalize (Mem.lits w7 [[0, 4, 3], [1, 2, 5]]).alloc (.cells (Mem.outer w7.heap.size [[0, 4, 3], [1, 2, 5]]).toArray 36 (0, 0)) = w8 at HQ8 HB8 HR3e HR4d ⊢
 refine (tangramref03_SameLists.calls 40 A3 c3 [[0, 4, 3], [1, 2, 5]] (some ⟨w7.heap.size + 1 + 1, 0, none⟩) 2 [[0, 4, 3], [1, 2, 5]] true w8 HR3e.out HL3.out HQ8.out (by decide) tangramlaw12_wakes.s1).mono ?_
 rintro e w9 ⟨rfl, hd⟩
 have hb := hd.below
 have HB9 := Aside0.mk (HB8.out.trans (hb.mono HB8.out.size))
 have HR4e := Aside0.mk (Kd.C_below HR4d.out hb)
 clear HR4d
 clear hb hd HQ8 HB8 HR3e
 have HIX : Aside0 (Mem.IRow (w9.alloc (.cells #[.int .i64 0, .int .i64 1, .int .i64 1, .int .i64 0, .int .i64 0, .int .i64 1] 3 (0, 0))) w9.heap.size [0, 1, 1, 0, 0, 1]) := ⟨Mem.heap_last w9 _⟩
 have hb := (Below.refl w9.heap.size w9).alloc (Nat.le_refl _) (.cells #[.int .i64 0, .int .i64 1, .int .i64 1, .int .i64 0, .int .i64 0, .int .i64 1] 3 (0, 0))
 have HBx := Aside0.mk (HB9.out.trans (hb.mono HB9.out.size))
 have HR4f := Aside0.mk (Kd.C_below HR4e.out hb)
 clear HR4e
 clear hb HB9
 go_wp2_with fail
 generalize w9.alloc (.cells #[.int .i64 0, .int .i64 1, .int .i64 1, .int .i64 0, .int .i64 0, .int .i64 1] 3 (0, 0)) = wx at HIX HBx HR4f ⊢
 refine (tangramref03_SameInts.calls 40 A4 c4 [0, 1, 1, 0, 0, 1] (some ⟨w9.heap.size, 0, none⟩) 6 [0, 1, 1, 0, 0, 1] true wx HR4f.out HL4.out (Mem.row_reads HIX.out (by decide)) (by decide) tangramlaw12_wakes.s2).mono ?_
 rintro e w10 ⟨rfl, hd⟩
 have hb := hd.below
 have HB10 := Aside0.mk (HBx.out.trans (hb.mono HBx.out.size))
 clear hb hd HIX HBx HR4f
 go_wp2_with fail
 go_ret
 exact ⟨rfl, HB10.out⟩
end Go.Proofs.Ytmikcfddipldnaa.GAll
namespace Go.Proofs.Ytmikcfddipldnaa.GAll
open Go.RowKit Go.Proofs.YtmikcfddipldnaaW.PrintWords Go.Proofs.YtmikcfddipldnaaW.PrintLast Go.Proofs.YtmikcfddipldnaaW.PrintMore
attribute [local go_sem] max2_int min2_int max_two min_two max_three min_three max_four min_four   -- for this text's walks alone
set_option linter.unusedVariables false
set_option linter.unusedSimpArgs false
def comps_Isolated.l0 : Nat → Int → Int → List Int → Int → Int → Option (Int × Int)
 | 0, _, _, _, _, _ => none
 | k + 1, x5, x6, x14, x15, x16 => if x16 < x15 then (if 0 ≤ x16 then (if x16 < (x14.length : Int) then (if (rd x14 x16) = 0 then (comps_Isolated.l0 k x5 (wrap64 (x6 + 1)) x14 x15 (wrap64 (x16 + 1))) else (comps_Isolated.l0 k x5 x6 x14 x15 (wrap64 (x16 + 1)))) else (none)) else (none)) else (some (x6, x5))
def comps_Isolated.f (k : Nat) (a0_0 : Int) (l0_1 : List (S56)) : Option (Int × Int) := (simple_Degrees.f k a0_0 l0_1).bind fun bt262 => (comps_Isolated.l0 k bt262.2 0 bt262.1 (bt262.1.length : Int) 0)
theorem comps_Isolated.mono_l : ∀ k, (∀ y0 y1 y2 y3 y4, LeO (comps_Isolated.l0 k y0 y1 y2 y3 y4) (comps_Isolated.l0 (k + 1) y0 y1 y2 y3 y4))
 | 0 => fun _ _ _ _ _ r h => by simp [comps_Isolated.l0] at h
 | k + 1 => by
   have ih0 := comps_Isolated.mono_l k
   · intro y0 y1 y2 y3 y4
     unfold comps_Isolated.l0
     repeat' first
     | (with_reducible exact ih0 _ _ _ _ _)
     | (with_reducible exact simple_Degrees.mono _ _ _)
     | (with_reducible exact LeO.refl _)
     | (with_reducible exact LeO.none _)
     | (with_reducible refine LeO.ite ?_ ?_)
     | (with_reducible refine LeO.bind ?_ (fun _ => ?_))
     | exact ih0 _ _ _ _ _
     | exact simple_Degrees.mono _ _ _
     | exact LeO.none _
     | refine LeO.ite ?_ ?_
     | refine LeO.bind ?_ (fun _ => ?_)
theorem comps_Isolated.mono : ∀ a0 a1 k, LeO (comps_Isolated.f k a0 a1) (comps_Isolated.f (k + 1) a0 a1) := by
 intro a0 a1 k
 have ih0 := comps_Isolated.mono_l k
 unfold comps_Isolated.f
 repeat' first
     | (with_reducible exact ih0 _ _ _ _ _)
     | (with_reducible exact simple_Degrees.mono _ _ _)
     | (with_reducible exact LeO.refl _)
     | (with_reducible exact LeO.none _)
     | (with_reducible refine LeO.ite ?_ ?_)
     | (with_reducible refine LeO.bind ?_ (fun _ => ?_))
     | exact ih0 _ _ _ _ _
     | exact simple_Degrees.mono _ _ _
     | exact LeO.none _
     | refine LeO.ite ?_ ?_
     | refine LeO.bind ?_ (fun _ => ?_)
set_option maxHeartbeats 8000000 in
set_option maxRecDepth 100000 in
theorem comps_Isolated.calls (k : Nat) (a0_0 : Int) (A0_1 : Option Addr) (c0_1 : Nat) (l0_1 : List (S56)) (r1 : Int) (r2 : Int) (w : World) (hr0_1 : Kd.C k56 w A0_1 l0_1.length l0_1) (hc0_1 : l0_1.length ≤ c0_1) (h : comps_Isolated.f k a0_0 l0_1 = some (r1, r2)) :
   Calls Try.prog 25 #[.agg #[.int .i64 a0_0, .slice A0_1 l0_1.length c0_1]] w fun e w' => e = .returned (.tuple #[.int .i64 r1, .int .i64 r2]) ∧ Below w.heap.size w w' := by
 have hu24 := Try.underlying24
 have HR0_1 := Aside0.mk hr0_1
 have HC0_1 := Aside0.mk hc0_1
 clear hr0_1 hc0_1
 have HB := Aside0.mk (Below.refl w.heap.size w)
 have H : ((simple_Degrees.f k a0_0 l0_1).bind fun bt262 => (comps_Isolated.l0 k bt262.2 0 bt262.1 (bt262.1.length : Int) 0)) = some (r1, r2) := h
 clear h
 replace H := Option.bind_eq_some_iff.mp H
 obtain ⟨⟨t262, t265⟩, A20, H⟩ := H
 replace H : (comps_Isolated.l0 k t265 0 t262 (t262.length : Int) 0) = some (r1, r2) := H
 have A2 := Aside0.mk A20
 clear A20
 have H' := Aside0.mk H
 clear H
 go_enter Try.func25, Try.ntmps25
 go_wp2_with (first | ((with_reducible refine gate_dst (N := 1) rfl ?_); refine box_event ?hg (N := 1) ?hd (cs := #[.int .i64 a0_0, .slice A0_1 l0_1.length c0_1]) (t := 24) ?hr ?_; (case hd => rfl); (case hg => rfl); (case hr => first | (go_simp; done) | (go_simp; rfl)); intro gb261 hg w3 hbox hb; have n0_ := Aside0.mk (below_step (by repeat (first | (with_reducible first | exact HB.out | apply below_alloc | apply pw_below_drewN | apply below_drew1) | exact HB.out)) hb); have n1_ := Aside0.mk (hbox); have n2_ := Aside0.mk ((by rw [hg]; exact (below_size (by repeat (first | (with_reducible first | exact HB.out | apply below_alloc | apply pw_below_drewN | apply below_drew1) | exact HB.out))) : w.heap.size ≤ gb261)); have n3_ := Aside0.mk ((by rw [hg]; exact (below_size (by repeat (first | (with_reducible first | exact HB.out | apply below_alloc | apply pw_below_drewN | apply below_drew1) | exact HB.out))) : w.heap.size ≤ gb261)); clear HB; have HB := n0_; have BK261 := n1_; have GW261 := n2_; have GE261 := n3_; clear n0_ n1_ n2_ n3_; clear hb hbox hg; have hcz4_0 : w3.cell? ⟨gb261, 0, none⟩ = some (.int .i64 a0_0) := (blk_cell BK261.out 0).trans rfl; have hcz4_1 : w3.cell? ⟨gb261, 1, none⟩ = some (.slice A0_1 l0_1.length c0_1) := (blk_cell BK261.out 1).trans rfl; have hfz4_0 := blk_frozen BK261.out 0; have hfz4_1 := blk_frozen BK261.out 1) | ((with_reducible refine gate_callee (f := 39) rfl ?_); refine goesL_ (some 11) rfl rfl Try.func39 (by kernel_rfl) rfl #[.agg #[.int .i64 a0_0, .slice A0_1 l0_1.length c0_1]] rfl (by (try simp only [List.map_toArray, List.map_cons, List.map_nil]); first | done | rfl | (simp only [List.length_drop, List.length_take]; rfl)) ?_; (with_reducible refine (simple_Degrees.calls k a0_0 _ _ l0_1 t262 t265 _ ?side1 ?side2 A2.out).mono ?_); (case side1 => repeat (first | exact (Kd.C_below HR0_1.out HB.out) | (with_reducible refine Kd.C_alloc ?_ _) | (with_reducible refine Kd.C_drewN ?_ _) | (with_reducible refine Kd.C_drew ?_))); (case side2 => exact HC0_1.out); rintro e w5 ⟨v263, rfl, ho0, hb⟩; refine ⟨_, rfl, ?_⟩; have n0_ := Aside0.mk (Kd.R_lower ho0 (below_size (by repeat (first | (with_reducible first | exact HB.out | apply below_alloc | apply pw_below_drewN | apply below_drew1 | refine below_set ?_ GE261.out) | exact HB.out)))); have n1_ := Aside0.mk (blk_below (g := gb261) (o := .cells #[.int .i64 a0_0, .slice A0_1 l0_1.length c0_1] 24 (0, 0)) (by (with_reducible repeat (first | refine blk_drewN ?_ _ | refine blk_drew ?_ | refine blk_alloc ?_ _)); exact BK261.out) hb); have n2_ := Aside0.mk (below_step (by repeat (first | (with_reducible first | exact HB.out | apply below_alloc | apply pw_below_drewN | apply below_drew1 | refine below_set ?_ GE261.out) | exact HB.out)) hb); clear BK261; clear HB; have HO264 := n0_; have BK261 := n1_; have HB := n2_; clear n0_ n1_ n2_; (try clear hb); (try clear hb2); (try clear hk); (try clear hi); (try clear ho0); obtain ⟨Ao6, co6, eo6⟩ := Kd.R_slice HO264.out; subst eo6))
 go_loopg [6, 16] k (fun kq v6 v16 w' => ∃ (x6_1 : Int) (x16_1 : Int), v6 = .int .i64 x6_1 ∧ v16 = .int .i64 x16_1 ∧ Aside0 (comps_Isolated.l0 kq t265 x6_1 t262 (t262.length : Int) x16_1 = some (r1, r2)) ∧ Aside0 (kq ≤ k) ∧ Aside0 (Kd.R (Kd.int .i64) 3 w' w.heap.size (fun _ => True) (.slice Ao6 t262.length co6) t262) ∧ Aside0 (w'.heap[gb261]? = some (.cells #[.int .i64 a0_0, (.slice A0_1 l0_1.length c0_1)] 24 (0, 0))) ∧ Aside0 (Below w.heap.size w w'))
 case atStart => exact ⟨(0), (0), (by first | rfl | (simp; done) | (simp [*]; done)), (by first | rfl | (simp; done) | (simp [*]; done)), H', ⟨Nat.le_refl _⟩, ⟨by (with_reducible repeat (first | apply Kd.R_alloc | apply Kd.R_drewN | apply Kd.R_drew)); exact HO264.out⟩, ⟨by (with_reducible repeat (first | refine blk_drewN ?_ _ | refine blk_drew ?_ | refine blk_alloc ?_ _)); exact BK261.out⟩, ⟨by repeat (first | (with_reducible first | exact HB.out | apply below_alloc | apply pw_below_drewN | apply below_drew1 | refine below_set ?_ GE261.out) | exact HB.out)⟩⟩
 case round =>
   clear H'
   try clear c2
   try clear p2
   try clear c3
   try clear hcz4_0
   try clear hcz4_1
   try clear hfz4_0
   try clear hfz4_1
   obtain ⟨x6_1, x16_1, rfl, rfl, HA, HK1, HO_14, BK261, HB⟩ := hrel
   cases gk with
   | zero => exact absurd HA.out (by simp [comps_Isolated.l0])
   | succ k1 =>
     have H := HA.out
     clear HA
     simp only [comps_Isolated.l0] at H
     by_cases c7 : x16_1 < (t262.length : Int)
     · rw [if_pos c7] at H
       have c7b0 : decide (x16_1 < (t262.length : Int)) = true := decide_eq_true c7
       clear c7
       by_cases c8 : 0 ≤ x16_1
       · rw [if_pos c8] at H
         have c8b0 : decide (0 ≤ x16_1) = true := decide_eq_true c8
         clear c8
         by_cases c9 : x16_1 < (t262.length : Int)
         · rw [if_pos c9] at H
           have c9b0 : decide (x16_1 < (t262.length : Int)) = true := decide_eq_true c9
           clear c9
           by_cases c10 : (rd t262 x16_1) = 0
           · rw [if_pos c10] at H
             have c10b0 : ((rd t262 x16_1) == 0) = true := beq_iff_eq.mpr c10
             have c10b1 : ((rd t262 x16_1) != 0) = false := bne_eq_false_iff_eq.mpr c10
             clear c10
             have H' := Aside0.mk H
             clear H
             have p266 : 0 ≤ (x16_1 : Int) := of_decide_eq_true (by first | (with_reducible assumption) | assumption)
             have q266 : x16_1 < (t262.length : Int) := of_decide_eq_true (by first | (with_reducible assumption) | assumption)
             obtain ⟨ad266, e266, hx266_0⟩ := Kd.at_int (Kd.R_reads' HO_14.out).2.2 x16_1 p266 q266
             cases e266
             replace p266 := eq_true p266
             replace q266 := eq_true q266
             go_wp2
             go_roundg k1
             case measure => have := HK1.out; omega
             case rel => exact ⟨(wrap64 (x6_1 + 1)), (wrap64 (x16_1 + 1)), (by first | rfl | (simp; done) | (simp [*]; done)), (by first | rfl | (simp; done) | (simp [*]; done)), H', ⟨by have := HK1.out; omega⟩, ⟨by (with_reducible repeat (first | apply Kd.R_alloc | apply Kd.R_drewN | apply Kd.R_drew)); exact HO_14.out⟩, ⟨by (with_reducible repeat (first | refine blk_drewN ?_ _ | refine blk_drew ?_ | refine blk_alloc ?_ _)); exact BK261.out⟩, ⟨by repeat (first | (with_reducible first | exact HB.out | apply below_alloc | apply pw_below_drewN | apply below_drew1 | refine below_set ?_ GE261.out) | exact HB.out)⟩⟩
           · rw [if_neg c10] at H
             have c10b0 : ((rd t262 x16_1) == 0) = false := beq_eq_false_iff_ne.mpr c10
             have c10b1 : ((rd t262 x16_1) != 0) = true := bne_iff_ne.mpr c10
             have H' := Aside0.mk H
             clear H
             have p266 : 0 ≤ (x16_1 : Int) := of_decide_eq_true (by first | (with_reducible assumption) | assumption)
             have q266 : x16_1 < (t262.length : Int) := of_decide_eq_true (by first | (with_reducible assumption) | assumption)
             obtain ⟨ad266, e266, hx266_0⟩ := Kd.at_int (Kd.R_reads' HO_14.out).2.2 x16_1 p266 q266
             cases e266
             replace p266 := eq_true p266
             replace q266 := eq_true q266
             go_wp2
             go_roundg k1
             case measure => have := HK1.out; omega
             case rel => exact ⟨(x6_1), (wrap64 (x16_1 + 1)), (by first | rfl | (simp; done) | (simp [*]; done)), (by first | rfl | (simp; done) | (simp [*]; done)), H', ⟨by have := HK1.out; omega⟩, ⟨by (with_reducible repeat (first | apply Kd.R_alloc | apply Kd.R_drewN | apply Kd.R_drew)); exact HO_14.out⟩, ⟨by (with_reducible repeat (first | refine blk_drewN ?_ _ | refine blk_drew ?_ | refine blk_alloc ?_ _)); exact BK261.out⟩, ⟨by repeat (first | (with_reducible first | exact HB.out | apply below_alloc | apply pw_below_drewN | apply below_drew1 | refine below_set ?_ GE261.out) | exact HB.out)⟩⟩
         · rw [if_neg c9] at H
           exact absurd H (by simp)
       · rw [if_neg c8] at H
         exact absurd H (by simp)
     · rw [if_neg c7] at H
       have c7b0 : decide (x16_1 < (t262.length : Int)) = false := decide_eq_false c7
       clear c7
       simp only [Option.some.injEq, Prod.mk.injEq] at H
       obtain ⟨rfl, rfl⟩ := H
       go_wp2
       go_ret2
       exact ⟨by first | rfl | (simp [errW_none, errW_some] <;> rfl) | (simp [*, errW_none, errW_some] <;> rfl), by repeat (first | (with_reducible first | exact HB.out | apply below_alloc | apply pw_below_drewN | apply below_drew1 | refine below_set ?_ GE261.out) | exact HB.out)⟩
end Go.Proofs.Ytmikcfddipldnaa.GAll
