/- DERIVED. Texts of this seat, one behind the other: lemmas and walks that the statement FacesEuler needs. No condition. -/
import Derived.Test.YtmikcfddipldnaaCFacesEulerb
import Derived.Test.YtmikcfddipldnaaCFacesEulera
namespace Go.Proofs.Ytmikcfddipldnaa.GAll
open Go.RowKit Go.Proofs.YtmikcfddipldnaaW.PrintWords Go.Proofs.YtmikcfddipldnaaW.PrintLast Go.Proofs.YtmikcfddipldnaaW.PrintMore
attribute [local go_sem] max2_int min2_int max_two min_two max_three min_three max_four min_four   -- for this text's walks alone
set_option linter.unusedVariables false
set_option linter.unusedSimpArgs false
def simple_Degrees.l0 : Nat → List Int → List (S56) → Int → Int → Option (List Int × Int)
 | 0, _, _, _, _ => none
 | k + 1, x4, x14, x15, x16 => if x16 < x15 then (if 0 ≤ x16 then (if x16 < (x14.length : Int) then (if 0 ≤ ((rd_T56 x14 x16).f0) then (if ((rd_T56 x14 x16).f0) < (x4.length : Int) then ((some (x4.set (((rd_T56 x14 x16).f0) : Int).toNat (wrap64 ((rd x4 ((rd_T56 x14 x16).f0)) + 1)) : List Int)).bind fun y109 => (if 0 ≤ ((rd_T56 x14 x16).f1) then (if ((rd_T56 x14 x16).f1) < (x4.length : Int) then (simple_Degrees.l0 k (y109.set (((rd_T56 x14 x16).f1) : Int).toNat (wrap64 ((rd y109 ((rd_T56 x14 x16).f1)) + 1))) x14 x15 (wrap64 (x16 + 1))) else (none)) else (none))) else (none)) else (none)) else (none)) else (none)) else (some (x4, 0))
def simple_Degrees.f (k : Nat) (a0_0 : Int) (l0_1 : List (S56)) : Option (List Int × Int) := (simple_Valid.f k a0_0 l0_1).bind fun t102 => (if t102 = true then (if 0 ≤ a0_0 then (if (a0_0 : Int).toNat ≤ 35184372088832 then (simple_Degrees.l0 k (List.replicate (a0_0 : Int).toNat 0) l0_1 (l0_1.length : Int) 0) else (none)) else (none)) else (some (([] : List Int), 1)))
theorem simple_Degrees.mono_l : ∀ k, (∀ y0 y1 y2 y3, LeO (simple_Degrees.l0 k y0 y1 y2 y3) (simple_Degrees.l0 (k + 1) y0 y1 y2 y3))
 | 0 => fun _ _ _ _ r h => by simp [simple_Degrees.l0] at h
 | k + 1 => by
   have ih0 := simple_Degrees.mono_l k
   · intro y0 y1 y2 y3
     unfold simple_Degrees.l0
     repeat' first
     | (with_reducible exact ih0 _ _ _ _)
     | (with_reducible exact simple_Valid.mono _ _ _)
     | (with_reducible exact LeO.refl _)
     | (with_reducible exact LeO.none _)
     | (with_reducible refine LeO.ite ?_ ?_)
     | (with_reducible refine LeO.bind ?_ (fun _ => ?_))
     | exact ih0 _ _ _ _
     | exact simple_Valid.mono _ _ _
     | exact LeO.none _
     | refine LeO.ite ?_ ?_
     | refine LeO.bind ?_ (fun _ => ?_)
theorem simple_Degrees.mono : ∀ a0 a1 k, LeO (simple_Degrees.f k a0 a1) (simple_Degrees.f (k + 1) a0 a1) := by
 intro a0 a1 k
 have ih0 := simple_Degrees.mono_l k
 unfold simple_Degrees.f
 repeat' first
     | (with_reducible exact ih0 _ _ _ _)
     | (with_reducible exact simple_Valid.mono _ _ _)
     | (with_reducible exact LeO.refl _)
     | (with_reducible exact LeO.none _)
     | (with_reducible refine LeO.ite ?_ ?_)
     | (with_reducible refine LeO.bind ?_ (fun _ => ?_))
     | exact ih0 _ _ _ _
     | exact simple_Valid.mono _ _ _
     | exact LeO.none _
     | refine LeO.ite ?_ ?_
     | refine LeO.bind ?_ (fun _ => ?_)
set_option maxHeartbeats 8000000 in
set_option maxRecDepth 100000 in
theorem simple_Degrees.calls (k : Nat) (a0_0 : Int) (A0_1 : Option Addr) (c0_1 : Nat) (l0_1 : List (S56)) (r1 : List Int) (r2 : Int) (w : World) (hr0_1 : Kd.C k56 w A0_1 l0_1.length l0_1) (hc0_1 : l0_1.length ≤ c0_1) (h : simple_Degrees.f k a0_0 l0_1 = some (r1, r2)) :
   Calls Try.prog 39 #[.agg #[.int .i64 a0_0, .slice A0_1 l0_1.length c0_1]] w fun e w' => ∃ v0_ : Value, e = .returned (.tuple #[v0_, .int .i64 r2]) ∧ Kd.R (Kd.int .i64) 3 w' w.heap.size (fun _ => True) v0_ r1 ∧ Below w.heap.size w w' := by
 have hu24 := Try.underlying24
 have hu56 := Try.underlying56
 have HR0_1 := Aside0.mk hr0_1
 have HC0_1 := Aside0.mk hc0_1
 clear hr0_1 hc0_1
 have HB := Aside0.mk (Below.refl w.heap.size w)
 have H : ((simple_Valid.f k a0_0 l0_1).bind fun t102 => (if t102 = true then (if 0 ≤ a0_0 then (if (a0_0 : Int).toNat ≤ 35184372088832 then (simple_Degrees.l0 k (List.replicate (a0_0 : Int).toNat 0) l0_1 (l0_1.length : Int) 0) else (none)) else (none)) else (some (([] : List Int), 1)))) = some (r1, r2) := h
 clear h
 replace H := Option.bind_eq_some_iff.mp H
 obtain ⟨t102, A20, H⟩ := H
 replace H : (if t102 = true then (if 0 ≤ a0_0 then (if (a0_0 : Int).toNat ≤ 35184372088832 then (simple_Degrees.l0 k (List.replicate (a0_0 : Int).toNat 0) l0_1 (l0_1.length : Int) 0) else (none)) else (none)) else (some (([] : List Int), 1))) = some (r1, r2) := H
 have A2 := Aside0.mk A20
 clear A20
 by_cases c3 : t102 = true
 · subst c3
   have H1 : (if 0 ≤ a0_0 then (if (a0_0 : Int).toNat ≤ 35184372088832 then (simple_Degrees.l0 k (List.replicate (a0_0 : Int).toNat 0) l0_1 (l0_1.length : Int) 0) else (none)) else (none)) = some (r1, r2) := by rw [if_pos rfl] at H; exact H
   clear H
   have H := H1
   clear H1
   by_cases c4 : 0 ≤ a0_0
   · rw [if_pos c4] at H
     have c4b0 := eq_true c4
     have c4b1 : decide (0 ≤ a0_0) = true := decide_eq_true c4
     clear c4
     by_cases c5 : (a0_0 : Int).toNat ≤ 35184372088832
     · rw [if_pos c5] at H
       have c5b0 := eq_true c5
       have c5b1 : decide ((a0_0 : Int).toNat ≤ 35184372088832) = true := decide_eq_true c5
       clear c5
       obtain ⟨y103, hy103⟩ : ∃ y_ : List Int, y_ = (List.replicate (a0_0 : Int).toNat 0) := ⟨_, rfl⟩
       replace H : (simple_Degrees.l0 k y103 l0_1 (l0_1.length : Int) 0) = some (r1, r2) := by first | (rw [hy103]; with_reducible exact H) | (have H2_ := (Option.bind_some _ _).symm.trans H; rw [hy103]; with_reducible exact H2_) | (have H2_ := (Option.bind_some _ _).symm.trans H; with_reducible exact H2_) | with_reducible exact H | (rw [hy103]; exact H) | exact H
       have Ny103 := Aside0.mk hy103
       clear hy103
       have H' := Aside0.mk H
       clear H
       go_enter Try.func39, Try.ntmps39
       go_wp2_with (first | ((with_reducible refine gate_dst (N := 1) rfl ?_); refine box_event ?hg (N := 1) ?hd (cs := #[.int .i64 a0_0, .slice A0_1 l0_1.length c0_1]) (t := 24) ?hr ?_; (case hd => rfl); (case hg => rfl); (case hr => first | (go_simp; done) | (go_simp; rfl)); intro gb101 hg w6 hbox hb; have n0_ := Aside0.mk (below_step (by repeat (first | (with_reducible first | exact HB.out | apply below_alloc | apply pw_below_drewN | apply below_drew1) | exact HB.out)) hb); have n1_ := Aside0.mk (hbox); have n2_ := Aside0.mk ((by rw [hg]; exact (below_size (by repeat (first | (with_reducible first | exact HB.out | apply below_alloc | apply pw_below_drewN | apply below_drew1) | exact HB.out))) : w.heap.size ≤ gb101)); have n3_ := Aside0.mk ((by rw [hg]; exact (below_size (by repeat (first | (with_reducible first | exact HB.out | apply below_alloc | apply pw_below_drewN | apply below_drew1) | exact HB.out))) : w.heap.size ≤ gb101)); clear HB; have HB := n0_; have BK101 := n1_; have GW101 := n2_; have GE101 := n3_; clear n0_ n1_ n2_ n3_; clear hb hbox hg; have hcz7_0 : w6.cell? ⟨gb101, 0, none⟩ = some (.int .i64 a0_0) := (blk_cell BK101.out 0).trans rfl; have hcz7_1 : w6.cell? ⟨gb101, 1, none⟩ = some (.slice A0_1 l0_1.length c0_1) := (blk_cell BK101.out 1).trans rfl; have hfz7_0 := blk_frozen BK101.out 0; have hfz7_1 := blk_frozen BK101.out 1) | ((with_reducible refine gate_callee (f := 35) rfl ?_); refine goesL_ (some 8) rfl rfl Try.func35 (by kernel_rfl) rfl #[.agg #[.int .i64 a0_0, .slice A0_1 l0_1.length c0_1]] rfl (by (try simp only [List.map_toArray, List.map_cons, List.map_nil]); first | done | rfl | (simp only [List.length_drop, List.length_take]; rfl)) ?_; (with_reducible refine (simple_Valid.calls k a0_0 _ _ l0_1 true _ ?side1 ?side2 A2.out).mono ?_); (case side1 => repeat (first | exact (Kd.C_below HR0_1.out HB.out) | (with_reducible refine Kd.C_alloc ?_ _) | (with_reducible refine Kd.C_drewN ?_ _) | (with_reducible refine Kd.C_drew ?_))); (case side2 => exact HC0_1.out); rintro e w8 ⟨rfl, hb⟩; refine ⟨_, rfl, ?_⟩; have n0_ := Aside0.mk (blk_below (g := gb101) (o := .cells #[.int .i64 a0_0, .slice A0_1 l0_1.length c0_1] 24 (0, 0)) (by (with_reducible repeat (first | refine blk_drewN ?_ _ | refine blk_drew ?_ | refine blk_alloc ?_ _)); exact BK101.out) hb); have n1_ := Aside0.mk (below_step (by repeat (first | (with_reducible first | exact HB.out | apply below_alloc | apply pw_below_drewN | apply below_drew1 | refine below_set ?_ GE101.out) | exact HB.out)) hb); clear BK101; clear HB; have BK101 := n0_; have HB := n1_; clear n0_ n1_; (try clear hb); (try clear hb2); (try clear hk); (try clear hi); have hcz9_0 : w8.cell? ⟨gb101, 0, none⟩ = some (.int .i64 a0_0) := (blk_cell BK101.out 0).trans rfl; have hcz9_1 : w8.cell? ⟨gb101, 1, none⟩ = some (.slice A0_1 l0_1.length c0_1) := (blk_cell BK101.out 1).trans rfl; have hfz9_0 := blk_frozen BK101.out 0; have hfz9_1 := blk_frozen BK101.out 1) | ((with_reducible refine gate_dst (N := 12) rfl ?_); refine Kd.R_make (Kd.int .i64) _ 3 rfl (N := 12) rfl 36 _ _ rfl a0_0 rfl rfl Try.underlying36 (.int .i64 0) 8 info3 rfl (by decide) (by omega) 0 (ok := fun _ => True) (okp := fun _ => True) rfl (fun _ hk => hk) trivial (of_decide_eq_true (by first | (with_reducible assumption) | assumption)) (Nat.le_trans (Nat.mul_le_mul_right _ (of_decide_eq_true (by first | (with_reducible assumption) | assumption) : a0_0.toNat ≤ 35184372088832)) (by omega)) (Below.refl _ _) (Nat.le_refl _) ?_; intro v104 w10 ho11 hb hg_ hnew_; clear hg_ hnew_; (first | rw [← Ny103.out] at ho11 | (simp only [Int.reduceToNat] at ho11; rw [← Ny103.out] at ho11)); have n0_ := Aside0.mk (Kd.R_lower ho11 (below_size (by repeat (first | (with_reducible first | exact HB.out | apply below_alloc | apply pw_below_drewN | apply below_drew1 | refine below_set ?_ GE101.out) | exact HB.out)))); have n1_ := Aside0.mk (blk_below (g := gb101) (o := .cells #[.int .i64 a0_0, .slice A0_1 l0_1.length c0_1] 24 (0, 0)) (by (with_reducible repeat (first | refine blk_drewN ?_ _ | refine blk_drew ?_ | refine blk_alloc ?_ _)); exact BK101.out) hb); have n2_ := Aside0.mk (below_step (by repeat (first | (with_reducible first | exact HB.out | apply below_alloc | apply pw_below_drewN | apply below_drew1 | refine below_set ?_ GE101.out) | exact HB.out)) hb); clear BK101; clear HB; have HO105 := n0_; have BK101 := n1_; have HB := n2_; clear n0_ n1_ n2_; clear hb ho11; have hcz12_0 : w10.cell? ⟨gb101, 0, none⟩ = some (.int .i64 a0_0) := (blk_cell BK101.out 0).trans rfl; have hcz12_1 : w10.cell? ⟨gb101, 1, none⟩ = some (.slice A0_1 l0_1.length c0_1) := (blk_cell BK101.out 1).trans rfl; have hfz12_0 := blk_frozen BK101.out 0; have hfz12_1 := blk_frozen BK101.out 1))
       go_loopg [16] k (fun kq v16 w' => ∃ (x4_1 : List Int) (x16_1 : Int), v16 = .int .i64 x16_1 ∧ Aside0 (simple_Degrees.l0 kq x4_1 l0_1 (l0_1.length : Int) x16_1 = some (r1, r2)) ∧ Aside0 (kq ≤ k) ∧ Aside0 (Kd.R (Kd.int .i64) 3 w' w.heap.size (fun _ => True) v104 x4_1) ∧ Aside0 (w'.heap[gb101]? = some (.cells #[.int .i64 a0_0, (.slice A0_1 l0_1.length c0_1)] 24 (0, 0))) ∧ Aside0 (Below w.heap.size w w'))
       case atStart => exact ⟨(y103), (0), (by first | rfl | (simp; done) | (simp [*]; done)), H', ⟨Nat.le_refl _⟩, ⟨by (with_reducible repeat (first | apply Kd.R_alloc | apply Kd.R_drewN | apply Kd.R_drew)); exact HO105.out⟩, ⟨by (with_reducible repeat (first | refine blk_drewN ?_ _ | refine blk_drew ?_ | refine blk_alloc ?_ _)); exact BK101.out⟩, ⟨by repeat (first | (with_reducible first | exact HB.out | apply below_alloc | apply pw_below_drewN | apply below_drew1 | refine below_set ?_ GE101.out) | exact HB.out)⟩⟩
       case round =>
         clear H'
         try clear p2
         try clear c3
         try clear c4
         try clear c4b0
         try clear c4b1
         try clear c5
         try clear c5b0
         try clear c5b1
         try clear hcz12_0
         try clear hcz12_1
         try clear hcz7_0
         try clear hcz7_1
         try clear hcz9_0
         try clear hcz9_1
         try clear hfz12_0
         try clear hfz12_1
         try clear hfz7_0
         try clear hfz7_1
         try clear hfz9_0
         try clear hfz9_1
         obtain ⟨x4_1, x16_1, rfl, HA, HK1, HO_4, BK101, HB⟩ := hrel
         cases gk with
         | zero => exact absurd HA.out (by simp [simple_Degrees.l0])
         | succ k1 =>
           have H := HA.out
           clear HA
           simp only [simple_Degrees.l0] at H
           by_cases c13 : x16_1 < (l0_1.length : Int)
           · rw [if_pos c13] at H
             have c13b0 : decide (x16_1 < (l0_1.length : Int)) = true := decide_eq_true c13
             clear c13
             by_cases c14 : 0 ≤ x16_1
             · rw [if_pos c14] at H
               have c14b0 : decide (0 ≤ x16_1) = true := decide_eq_true c14
               clear c14
               by_cases c15 : x16_1 < (l0_1.length : Int)
               · rw [if_pos c15] at H
                 have c15b0 : decide (x16_1 < (l0_1.length : Int)) = true := decide_eq_true c15
                 clear c15
                 by_cases c16 : 0 ≤ ((rd_T56 l0_1 x16_1).f0)
                 · rw [if_pos c16] at H
                   have c16b0 : decide (0 ≤ ((rd_T56 l0_1 x16_1).f0)) = true := decide_eq_true c16
                   clear c16
                   by_cases c17 : ((rd_T56 l0_1 x16_1).f0) < (x4_1.length : Int)
                   · rw [if_pos c17] at H
                     have c17b0 : decide (((rd_T56 l0_1 x16_1).f0) < (x4_1.length : Int)) = true := decide_eq_true c17
                     clear c17
                     obtain ⟨y109, hy109⟩ : ∃ y_ : List Int, y_ = (x4_1.set (((rd_T56 l0_1 x16_1).f0) : Int).toNat (wrap64 ((rd x4_1 ((rd_T56 l0_1 x16_1).f0)) + 1))) := ⟨_, rfl⟩
                     replace H : (if 0 ≤ ((rd_T56 l0_1 x16_1).f1) then (if ((rd_T56 l0_1 x16_1).f1) < (x4_1.length : Int) then (simple_Degrees.l0 k1 (y109.set (((rd_T56 l0_1 x16_1).f1) : Int).toNat (wrap64 ((rd y109 ((rd_T56 l0_1 x16_1).f1)) + 1))) l0_1 (l0_1.length : Int) (wrap64 (x16_1 + 1))) else (none)) else (none)) = some (r1, r2) := by first | (rw [hy109]; with_reducible exact H) | (have H2_ := (Option.bind_some _ _).symm.trans H; rw [hy109]; with_reducible exact H2_) | (have H2_ := (Option.bind_some _ _).symm.trans H; with_reducible exact H2_) | with_reducible exact H | (rw [hy109]; exact H) | exact H
                     have Ny109 := Aside0.mk hy109
                     clear hy109
                     by_cases c19 : 0 ≤ ((rd_T56 l0_1 x16_1).f1)
                     · rw [if_pos c19] at H
                       have c19b0 : decide (0 ≤ ((rd_T56 l0_1 x16_1).f1)) = true := decide_eq_true c19
                       clear c19
                       by_cases c20 : ((rd_T56 l0_1 x16_1).f1) < (x4_1.length : Int)
                       · rw [if_pos c20] at H
                         have c20b0 : decide (((rd_T56 l0_1 x16_1).f1) < (x4_1.length : Int)) = true := decide_eq_true c20
                         clear c20
                         obtain ⟨y111, hy111⟩ : ∃ y_ : List Int, y_ = (y109.set (((rd_T56 l0_1 x16_1).f1) : Int).toNat (wrap64 ((rd y109 ((rd_T56 l0_1 x16_1).f1)) + 1))) := ⟨_, rfl⟩
                         replace H : (simple_Degrees.l0 k1 y111 l0_1 (l0_1.length : Int) (wrap64 (x16_1 + 1))) = some (r1, r2) := by first | (rw [hy111]; with_reducible exact H) | (have H2_ := (Option.bind_some _ _).symm.trans H; rw [hy111]; with_reducible exact H2_) | (have H2_ := (Option.bind_some _ _).symm.trans H; with_reducible exact H2_) | with_reducible exact H | (rw [hy111]; exact H) | exact H
                         have Ny111 := Aside0.mk hy111
                         clear hy111
                         have H' := Aside0.mk H
                         clear H
                         have p106 : 0 ≤ (x16_1 : Int) := of_decide_eq_true (by first | (with_reducible assumption) | assumption)
                         have q106 : x16_1 < (l0_1.length : Int) := of_decide_eq_true (by first | (with_reducible assumption) | assumption)
                         obtain ⟨ad106, e106, hx106_0, hx106_1⟩ := at_T56 HR0_1.out x16_1 p106 q106
                         cases e106
                         replace hx106_0 := (HB.out.cell (World.block_lt_of_cell? w _ hx106_0)).trans hx106_0
                         replace hx106_1 := (HB.out.cell (World.block_lt_of_cell? w _ hx106_1)).trans hx106_1
                         replace p106 := eq_true p106
                         replace q106 := eq_true q106
                         go_wp2_with (first | ((with_reducible refine gate_dst (N := 6) rfl ?_); refine box_event ?hg (N := 6) ?hd (cs := #[.int .i64 0, .int .i64 0]) (t := 56) ?hr ?_; (case hd => rfl); (case hg => rfl); (case hr => first | (go_simp; done) | (go_simp; rfl)); intro gb107 hg w22 hbox hb; have n0_ := Aside0.mk (Kd.R_below (by (with_reducible repeat (first | apply Kd.R_alloc | apply Kd.R_drewN | apply Kd.R_drew)); exact HO_4.out) hb); have n1_ := Aside0.mk (blk_below (g := gb101) (o := .cells #[.int .i64 a0_0, .slice (some ad106) l0_1.length c0_1] 24 (0, 0)) (by (with_reducible repeat (first | refine blk_drewN ?_ _ | refine blk_drew ?_ | refine blk_alloc ?_ _)); exact BK101.out) hb); have n2_ := Aside0.mk (below_step (by repeat (first | (with_reducible first | exact HB.out | apply below_alloc | apply pw_below_drewN | apply below_drew1 | refine below_set ?_ GE101.out) | exact HB.out)) hb); have n3_ := Aside0.mk (hbox); have n4_ := Aside0.mk ((by rw [hg]; exact (below_size (by repeat (first | (with_reducible first | exact HB.out | apply below_alloc | apply pw_below_drewN | apply below_drew1 | refine below_set ?_ GE101.out) | exact HB.out))) : w.heap.size ≤ gb107)); have n5_ := Aside0.mk ((by rw [hg]; exact (below_size (by repeat (first | (with_reducible first | exact HB.out | apply below_alloc | apply pw_below_drewN | apply below_drew1 | refine below_set ?_ GE101.out) | exact HB.out))) : w.heap.size ≤ gb107)); have n6_ := Aside0.mk ((by rw [hg]; exact Nat.ne_of_lt (blk_lt (g := gb101) (o := .cells #[.int .i64 a0_0, .slice (some ad106) l0_1.length c0_1] 24 (0, 0)) (by (with_reducible repeat (first | refine blk_drewN ?_ _ | refine blk_drew ?_ | refine blk_alloc ?_ _)); exact BK101.out)) : gb101 ≠ gb107)); have n7_ := Aside0.mk ((by rw [hg]; exact Nat.ne_of_gt (blk_lt (g := gb101) (o := .cells #[.int .i64 a0_0, .slice (some ad106) l0_1.length c0_1] 24 (0, 0)) (by (with_reducible repeat (first | refine blk_drewN ?_ _ | refine blk_drew ?_ | refine blk_alloc ?_ _)); exact BK101.out)) : gb107 ≠ gb101)); clear HO_4; clear BK101; clear HB; have HO_4 := n0_; have BK101 := n1_; have HB := n2_; have BK107 := n3_; have GW107 := n4_; have GE107 := n5_; have NB101_107 := n6_; have NB107_101 := n7_; clear n0_ n1_ n2_ n3_ n4_ n5_ n6_ n7_; clear hb hbox hg; have hnb23 := NB107_101.out; have hnc23 := NB101_107.out; have hcz24_0 : w22.cell? ⟨gb107, 0, none⟩ = some (.int .i64 0) := (blk_cell BK107.out 0).trans rfl; have hcz24_1 : w22.cell? ⟨gb107, 1, none⟩ = some (.int .i64 0) := (blk_cell BK107.out 1).trans rfl; have hfz24_0 := blk_frozen BK107.out 0; have hfz24_1 := blk_frozen BK107.out 1) | ((with_reducible refine gate_store (t := 56) (p := 6) rfl ?_); refine store_event (t := 56) (p := 6) (v := ?vo_w25) (w1 := ((w22.setCell ⟨gb107, 0, none⟩ (.int .i64 ((rd_T56 l0_1 x16_1).f0))).setCell ⟨gb107, 1, none⟩ (.int .i64 ((rd_T56 l0_1 x16_1).f1)))) ?hg ?ho ?hn ?hr ?_; (case ho => rfl); (case hg => rfl); (case hn => rfl); (case hr => first | (go_simp; done) | (go_simp; rfl)); intro w25 hw; have n0_ : Aside0 (Kd.R (Kd.int .i64) 3 w25 w.heap.size (fun _ => True) v104 x4_1) := ⟨(by rw [hw]; exact (by (with_reducible repeat (first | apply Kd.R_alloc | apply Kd.R_drewN | apply Kd.R_drew)); exact Kd.R_mono (Kd.R_far (p := ⟨gb107, 1, none⟩) (Kd.R_far (p := ⟨gb107, 0, none⟩) (Kd.R_types HO_4.out BK107.out (by decide)) (fun _ hk => hk.2) (.int .i64 ((rd_T56 l0_1 x16_1).f0))) (fun _ hk => hk.2) (.int .i64 ((rd_T56 l0_1 x16_1).f1))) (fun _ hk => trivial)))⟩; have n1_ : Aside0 (w25.heap[gb101]? = some (.cells #[.int .i64 a0_0, .slice (some ad106) l0_1.length c0_1] 24 (0, 0))) := ⟨(by rw [hw]; exact (by (with_reducible repeat (first | refine blk_drewN ?_ _ | refine blk_drew ?_ | refine blk_alloc ?_ _)); refine blk_far ?_ NB101_107.out _; (with_reducible repeat (first | refine blk_drewN ?_ _ | refine blk_drew ?_ | refine blk_alloc ?_ _)); refine blk_far ?_ NB101_107.out _; (with_reducible repeat (first | refine blk_drewN ?_ _ | refine blk_drew ?_ | refine blk_alloc ?_ _)); exact BK101.out))⟩; have n2_ : Aside0 (w25.heap[gb107]? = some (.cells #[.int .i64 ((rd_T56 l0_1 x16_1).f0), .int .i64 ((rd_T56 l0_1 x16_1).f1)] 56 (0, 0))) := ⟨(by rw [hw]; exact (by (with_reducible repeat (first | refine blk_drewN ?_ _ | refine blk_drew ?_ | refine blk_alloc ?_ _)); refine blk_put (cs := #[.int .i64 ((rd_T56 l0_1 x16_1).f0), .int .i64 0]) ?_ 1 _ rfl; (with_reducible repeat (first | refine blk_drewN ?_ _ | refine blk_drew ?_ | refine blk_alloc ?_ _)); refine blk_put (cs := #[.int .i64 0, .int .i64 0]) ?_ 0 _ rfl; (with_reducible repeat (first | refine blk_drewN ?_ _ | refine blk_drew ?_ | refine blk_alloc ?_ _)); exact BK107.out))⟩; have n3_ : Aside0 (Below w.heap.size w w25) := ⟨(by rw [hw]; exact (by repeat (first | (with_reducible first | exact HB.out | apply below_alloc | apply pw_below_drewN | apply below_drew1 | refine below_set ?_ GE101.out | refine below_set ?_ GE107.out) | exact HB.out)))⟩; clear hw; clear HO_4; clear BK101; clear BK107; clear HB; have HO_4 := n0_; have BK101 := n1_; have BK107 := n2_; have HB := n3_; clear n0_ n1_ n2_ n3_; have hcz26_0 : w25.cell? ⟨gb107, 0, none⟩ = some (.int .i64 ((rd_T56 l0_1 x16_1).f0)) := (blk_cell BK107.out 0).trans rfl; have hcz26_1 : w25.cell? ⟨gb107, 1, none⟩ = some (.int .i64 ((rd_T56 l0_1 x16_1).f1)) := (blk_cell BK107.out 1).trans rfl; have hfz26_0 := blk_frozen BK107.out 0; have hfz26_1 := blk_frozen BK107.out 1; obtain ⟨Ao27, co27, eo27⟩ := Kd.R_slice HO_4.out; subst eo27; have p108 : 0 ≤ (((rd_T56 l0_1 x16_1).f0) : Int) := of_decide_eq_true (by first | (with_reducible assumption) | assumption); have q108 : ((rd_T56 l0_1 x16_1).f0) < (x4_1.length : Int) := of_decide_eq_true (by first | (with_reducible assumption) | assumption); obtain ⟨ad108, e108, hx108_0⟩ := Kd.at_int (Kd.R_reads' HO_4.out).2.2 ((rd_T56 l0_1 x16_1).f0) p108 q108; cases e108; replace p108 := eq_true p108; replace q108 := eq_true q108; have p18 : 0 ≤ (((rd_T56 l0_1 x16_1).f0) : Int) := of_decide_eq_true (by first | (with_reducible assumption) | assumption); have q18 : (((rd_T56 l0_1 x16_1).f0) : Int) < ((x4_1.length : Int) : Int) := of_decide_eq_true (by first | (with_reducible assumption) | assumption); obtain ⟨go18, co18, eo18, gb18, gl18, cl18, HG18⟩ := Kd.R_form HO_4.out (by omega); (first | cases eo18 | (injection eo18 with ea_ en_ ec_; (first | subst ea_ | (injection ea_ with ea_; subst ea_)); subst ec_; clear en_)); have GB18 := Aside0.mk gb18; have GG18 := Aside0.mk HG18; clear gb18 gl18 HG18; (first | simp only [add_plain] at hx108_0 | skip); obtain ⟨hx18_0, hf18_0⟩ := Kd.R_celln 0 HO_4.out (((rd_T56 l0_1 x16_1).f0) : Int) p18 q18; replace p18 := eq_true p18; replace q18 := eq_true q18; obtain ⟨hy28_, hz28_⟩ := Kd.R_celln 0 HO_4.out (((rd_T56 l0_1 x16_1).f0) : Int) (of_decide_eq_true (by first | (with_reducible assumption) | assumption)) (of_decide_eq_true (by first | (with_reducible assumption) | assumption)); have HP28 := Kd.R_putg HO_4.out (((rd_T56 l0_1 x16_1).f0) : Int) (wrap64 ((rd x4_1 ((rd_T56 l0_1 x16_1).f0)) + 1))) | ((with_reducible refine gate_store (t := 3) (p := 26) rfl ?_); refine store_event (t := 3) (p := 26) (v := ?vo_w29) (w1 := (w25.setCell ⟨go18, (((rd_T56 l0_1 x16_1).f0) : Int).toNat, none⟩ (.int .i64 (wrap64 ((rd x4_1 ((rd_T56 l0_1 x16_1).f0)) + 1))))) ?hg ?ho ?hn ?hr ?_; (case ho => rfl); (case hg => rfl); (case hn => rfl); (case hr => first | (go_simp; done) | (go_simp; rfl)); intro w29 hw; have hg : w25.grownBy w29 (some go18) := (by rw [hw]; exact HP28.2); have hp_ : Kd.R (Kd.int .i64) 3 w29 w.heap.size (fun _ => True) (.slice (some ⟨go18, 0, none⟩) x4_1.length co27) y109 := (by rw [hw, Ny109.out]; exact HP28.1); clear HP28; have n0_ := Aside0.mk (hp_); have n1_ := Aside0.mk (blk_grown (g := gb101) (o := .cells #[.int .i64 a0_0, .slice (some ad106) l0_1.length c0_1] 24 (0, 0)) (by (with_reducible repeat (first | refine blk_drewN ?_ _ | refine blk_drew ?_ | refine blk_alloc ?_ _)); exact BK101.out) hg (Kd.R_ne HO_4.out BK101.out (by decide))); have n2_ := Aside0.mk (blk_grown (g := gb107) (o := .cells #[.int .i64 ((rd_T56 l0_1 x16_1).f0), .int .i64 ((rd_T56 l0_1 x16_1).f1)] 56 (0, 0)) (by (with_reducible repeat (first | refine blk_drewN ?_ _ | refine blk_drew ?_ | refine blk_alloc ?_ _)); exact BK107.out) hg (Kd.R_ne HO_4.out BK107.out (by decide))); have n3_ := Aside0.mk ((by rw [hw]; exact below_set (HB.out) GB18.out : Below w.heap.size w w29)); clear HO_4; clear BK101; clear BK107; clear HB; have HO_4 := n0_; have BK101 := n1_; have BK107 := n2_; have HB := n3_; clear n0_ n1_ n2_ n3_; clear hg hw hp_; have hcz30_0 : w29.cell? ⟨gb107, 0, none⟩ = some (.int .i64 ((rd_T56 l0_1 x16_1).f0)) := (blk_cell BK107.out 0).trans rfl; have hcz30_1 : w29.cell? ⟨gb107, 1, none⟩ = some (.int .i64 ((rd_T56 l0_1 x16_1).f1)) := (blk_cell BK107.out 1).trans rfl; have hfz30_0 := blk_frozen BK107.out 0; have hfz30_1 := blk_frozen BK107.out 1; have p110 : 0 ≤ (((rd_T56 l0_1 x16_1).f1) : Int) := of_decide_eq_true (by first | (with_reducible assumption) | assumption); have q110 : ((rd_T56 l0_1 x16_1).f1) < (y109.length : Int) := (by have h_ : (((rd_T56 l0_1 x16_1).f1) : Int) < ((x4_1.length : Int) : Int) := of_decide_eq_true (by first | (with_reducible assumption) | assumption); first | (have e_ := (Kd.R_reads' HO_4.out).1; omega) | simpa only [Ny109.out, List.length_set] using h_); have ql110 : ((((rd_T56 l0_1 x16_1).f1) : Int) < ((x4_1.length : Int) : Int)) = True := eq_true (of_decide_eq_true (by first | (with_reducible assumption) | assumption)); obtain ⟨ad110, e110, hx110_0⟩ := Kd.at_int (Kd.R_reads' HO_4.out).2.2 ((rd_T56 l0_1 x16_1).f1) p110 q110; obtain rfl : (⟨go18, 0, none⟩ : Addr) = ad110 := (by injection e110); (first | simp only [add_plain] at hx110_0 | simp only [add_at] at hx110_0 | simp only [Addr.add, Nat.zero_add] at hx110_0 | skip); replace p110 := eq_true p110; replace q110 := eq_true q110; have p21 : 0 ≤ (((rd_T56 l0_1 x16_1).f1) : Int) := of_decide_eq_true (by first | (with_reducible assumption) | assumption); have q21 : (((rd_T56 l0_1 x16_1).f1) : Int) < ((x4_1.length : Int) : Int) := of_decide_eq_true (by first | (with_reducible assumption) | assumption); obtain ⟨hx21_0, hf21_0⟩ := Kd.R_celln 0 HO_4.out (((rd_T56 l0_1 x16_1).f1) : Int) p21 q21; replace p21 := eq_true p21; replace q21 := eq_true q21; obtain ⟨hy31_, hz31_⟩ := Kd.R_celln 0 HO_4.out (((rd_T56 l0_1 x16_1).f1) : Int) (of_decide_eq_true (by first | (with_reducible assumption) | assumption)) (of_decide_eq_true (by first | (with_reducible assumption) | assumption)); have HP31 := Kd.R_putg HO_4.out (((rd_T56 l0_1 x16_1).f1) : Int) (wrap64 ((rd y109 ((rd_T56 l0_1 x16_1).f1)) + 1))) | ((with_reducible refine gate_store (t := 3) (p := 33) rfl ?_); refine store_event (t := 3) (p := 33) (v := ?vo_w32) (w1 := (w29.setCell ⟨go18, (((rd_T56 l0_1 x16_1).f1) : Int).toNat, none⟩ (.int .i64 (wrap64 ((rd y109 ((rd_T56 l0_1 x16_1).f1)) + 1))))) ?hg ?ho ?hn ?hr ?_; (case ho => rfl); (case hg => rfl); (case hn => rfl); (case hr => first | (go_simp; done) | (go_simp; rfl)); intro w32 hw; have hg : w29.grownBy w32 (some go18) := (by rw [hw]; exact HP31.2); have hp_ : Kd.R (Kd.int .i64) 3 w32 w.heap.size (fun _ => True) (.slice (some ⟨go18, 0, none⟩) x4_1.length co27) y111 := (by rw [hw, Ny111.out]; exact HP31.1); clear HP31; have n0_ := Aside0.mk (hp_); have n1_ := Aside0.mk (blk_grown (g := gb101) (o := .cells #[.int .i64 a0_0, .slice (some ad106) l0_1.length c0_1] 24 (0, 0)) (by (with_reducible repeat (first | refine blk_drewN ?_ _ | refine blk_drew ?_ | refine blk_alloc ?_ _)); exact BK101.out) hg (Kd.R_ne HO_4.out BK101.out (by decide))); have n2_ := Aside0.mk (blk_grown (g := gb107) (o := .cells #[.int .i64 ((rd_T56 l0_1 x16_1).f0), .int .i64 ((rd_T56 l0_1 x16_1).f1)] 56 (0, 0)) (by (with_reducible repeat (first | refine blk_drewN ?_ _ | refine blk_drew ?_ | refine blk_alloc ?_ _)); exact BK107.out) hg (Kd.R_ne HO_4.out BK107.out (by decide))); have n3_ := Aside0.mk ((by rw [hw]; exact below_set (HB.out) GB18.out : Below w.heap.size w w32)); clear HO_4; clear BK101; clear BK107; clear HB; have HO_4 := n0_; have BK101 := n1_; have BK107 := n2_; have HB := n3_; clear n0_ n1_ n2_ n3_; clear hg hw hp_))
                         go_roundg k1
                         case measure => have := HK1.out; omega
                         case rel => exact ⟨(y111), (wrap64 (x16_1 + 1)), (by first | rfl | (simp; done) | (simp [*]; done)), H', ⟨by have := HK1.out; omega⟩, ⟨by (with_reducible repeat (first | apply Kd.R_alloc | apply Kd.R_drewN | apply Kd.R_drew)); exact HO_4.out⟩, ⟨by (with_reducible repeat (first | refine blk_drewN ?_ _ | refine blk_drew ?_ | refine blk_alloc ?_ _)); exact BK101.out⟩, ⟨by repeat (first | (with_reducible first | exact HB.out | apply below_alloc | apply pw_below_drewN | apply below_drew1 | refine below_set ?_ GE101.out | refine below_set ?_ GE107.out) | exact HB.out)⟩⟩
                       · rw [if_neg c20] at H
                         exact absurd H (by simp)
                     · rw [if_neg c19] at H
                       exact absurd H (by simp)
                   · rw [if_neg c17] at H
                     exact absurd H (by simp)
                 · rw [if_neg c16] at H
                   exact absurd H (by simp)
               · rw [if_neg c15] at H
                 exact absurd H (by simp)
             · rw [if_neg c14] at H
               exact absurd H (by simp)
           · rw [if_neg c13] at H
             have c13b0 : decide (x16_1 < (l0_1.length : Int)) = false := decide_eq_false c13
             clear c13
             simp only [Option.some.injEq, Prod.mk.injEq] at H
             obtain ⟨rfl, rfl⟩ := H
             go_wp2
             go_ret2
             exact ⟨_, by first | rfl | (simp [errW_none, errW_some] <;> rfl) | (simp [*, errW_none, errW_some] <;> rfl), by (with_reducible repeat (first | apply Kd.R_alloc | apply Kd.R_drewN | apply Kd.R_drew)); exact HO_4.out, by repeat (first | (with_reducible first | exact HB.out | apply below_alloc | apply pw_below_drewN | apply below_drew1 | refine below_set ?_ GE101.out) | exact HB.out)⟩
     · rw [if_neg c5] at H
       exact absurd H (by simp)
   · rw [if_neg c4] at H
     exact absurd H (by simp)
 · replace c3 := Bool.eq_false_iff.mpr c3
   subst c3
   have H1 : (some (([] : List Int), 1)) = some (r1, r2) := by rw [if_neg (show ¬ (false = true) by decide)] at H; exact H
   clear H
   have H := H1
   clear H1
   simp only [Option.some.injEq, Prod.mk.injEq] at H
   obtain ⟨rfl, rfl⟩ := H
   go_enter Try.func39, Try.ntmps39
   go_wp2_with (first | ((with_reducible refine gate_dst (N := 1) rfl ?_); refine box_event ?hg (N := 1) ?hd (cs := #[.int .i64 a0_0, .slice A0_1 l0_1.length c0_1]) (t := 24) ?hr ?_; (case hd => rfl); (case hg => rfl); (case hr => first | (go_simp; done) | (go_simp; rfl)); intro gb101 hg w33 hbox hb; have n0_ := Aside0.mk (below_step (by repeat (first | (with_reducible first | exact HB.out | apply below_alloc | apply pw_below_drewN | apply below_drew1) | exact HB.out)) hb); have n1_ := Aside0.mk (hbox); have n2_ := Aside0.mk ((by rw [hg]; exact (below_size (by repeat (first | (with_reducible first | exact HB.out | apply below_alloc | apply pw_below_drewN | apply below_drew1) | exact HB.out))) : w.heap.size ≤ gb101)); have n3_ := Aside0.mk ((by rw [hg]; exact (below_size (by repeat (first | (with_reducible first | exact HB.out | apply below_alloc | apply pw_below_drewN | apply below_drew1) | exact HB.out))) : w.heap.size ≤ gb101)); clear HB; have HB := n0_; have BK101 := n1_; have GW101 := n2_; have GE101 := n3_; clear n0_ n1_ n2_ n3_; clear hb hbox hg; have hcz34_0 : w33.cell? ⟨gb101, 0, none⟩ = some (.int .i64 a0_0) := (blk_cell BK101.out 0).trans rfl; have hcz34_1 : w33.cell? ⟨gb101, 1, none⟩ = some (.slice A0_1 l0_1.length c0_1) := (blk_cell BK101.out 1).trans rfl; have hfz34_0 := blk_frozen BK101.out 0; have hfz34_1 := blk_frozen BK101.out 1) | ((with_reducible refine gate_callee (f := 35) rfl ?_); refine goesL_ (some 8) rfl rfl Try.func35 (by kernel_rfl) rfl #[.agg #[.int .i64 a0_0, .slice A0_1 l0_1.length c0_1]] rfl (by (try simp only [List.map_toArray, List.map_cons, List.map_nil]); first | done | rfl | (simp only [List.length_drop, List.length_take]; rfl)) ?_; (with_reducible refine (simple_Valid.calls k a0_0 _ _ l0_1 false _ ?side1 ?side2 A2.out).mono ?_); (case side1 => repeat (first | exact (Kd.C_below HR0_1.out HB.out) | (with_reducible refine Kd.C_alloc ?_ _) | (with_reducible refine Kd.C_drewN ?_ _) | (with_reducible refine Kd.C_drew ?_))); (case side2 => exact HC0_1.out); rintro e w35 ⟨rfl, hb⟩; refine ⟨_, rfl, ?_⟩; have n0_ := Aside0.mk (blk_below (g := gb101) (o := .cells #[.int .i64 a0_0, .slice A0_1 l0_1.length c0_1] 24 (0, 0)) (by (with_reducible repeat (first | refine blk_drewN ?_ _ | refine blk_drew ?_ | refine blk_alloc ?_ _)); exact BK101.out) hb); have n1_ := Aside0.mk (below_step (by repeat (first | (with_reducible first | exact HB.out | apply below_alloc | apply pw_below_drewN | apply below_drew1 | refine below_set ?_ GE101.out) | exact HB.out)) hb); clear BK101; clear HB; have BK101 := n0_; have HB := n1_; clear n0_ n1_; (try clear hb); (try clear hb2); (try clear hk); (try clear hi)))
   go_ret2
   exact ⟨_, by first | rfl | (simp [errW_none, errW_some] <;> rfl) | (simp [*, errW_none, errW_some] <;> rfl), by first | exact Kd.R_nil _ _ _ _ _ | exact Kd.N_nil _ _ _ _ _ | exact Kd.V_nil _ _ _ _ _ | exact Kd.Q_nil _ _ _ _ _ | exact Kd.S_nil _ _ _ _ _, by repeat (first | (with_reducible first | exact HB.out | apply below_alloc | apply pw_below_drewN | apply below_drew1 | refine below_set ?_ GE101.out) | exact HB.out)⟩
end Go.Proofs.Ytmikcfddipldnaa.GAll
namespace Go.Proofs.Ytmikcfddipldnaa.GAll
open Go.RowKit Go.Proofs.YtmikcfddipldnaaW.PrintWords Go.Proofs.YtmikcfddipldnaaW.PrintLast Go.Proofs.YtmikcfddipldnaaW.PrintMore
attribute [local go_sem] max2_int min2_int max_two min_two max_three min_three max_four min_four   -- for this text's walks alone
set_option linter.unusedVariables false
set_option linter.unusedSimpArgs false
theorem rot_Check.pairs {w : World} {A : Option Addr} {l : List S56} (h : Kd.C k56 w A l.length l) : Mem.Pairs w A (l.map fun x => (x.f0, x.f1)) := by
 intro i hi
 rw [List.length_map] at hi
 obtain ⟨ad, e, h1, h2⟩ := at_T56 h (i : Int) (by omega) (by omega)
 have e2 : Mem.pe (l.map fun x => (x.f0, x.f1)) i = ((rd_T56 l (i : Int)).f0, (rd_T56 l (i : Int)).f1) := by
   unfold Mem.pe rd_T56
   simp [List.getD_eq_getElem?_getD, hi]
 rw [e2]
 exact ⟨ad, e, h1, h2⟩
def rot_Check.told (n : Int) (l : List S56) (r : List (List Int)) (d : List Int × Int) : Option (Int × Int) :=
 if 0 ≤ n ∧ n ≤ 1048576 ∧ l.length ≤ 4194304 ∧ (d.1.length : Int) = n ∧ d.2 = 0 then some (Rot.rows (Rot.froms (l.map fun x => (x.f0, x.f1))) d.1 0 r (List.replicate (2 * l.length) false)) else none
def rot_Check.f (k : Nat) (a0_0 : Int) (l0_1 : List S56) (l1 : List (List Int)) : Option (Int × Int) := (simple_Valid.f k a0_0 l0_1).bind fun t => if t = true then (if (l1.length : Int) = a0_0 then (simple_Degrees.f k a0_0 l0_1).bind fun d => rot_Check.told a0_0 l0_1 l1 d else some (0, 110)) else some (0, 1)
theorem rot_Check.mono : ∀ a0 a1 a2 k, LeO (rot_Check.f k a0 a1 a2) (rot_Check.f (k + 1) a0 a1 a2) := by
 intro a0 a1 a2 k
 unfold rot_Check.f
 refine LeO.bind (simple_Valid.mono _ _ _) (fun t => ?_)
 refine LeO.ite ?_ (LeO.refl _)
 refine LeO.ite ?_ (LeO.refl _)
 exact LeO.bind (simple_Degrees.mono _ _ _) (fun _ => LeO.refl _)
set_option maxHeartbeats 1000000 in
set_option maxRecDepth 100000 in
theorem rot_Check.calls (k : Nat) (a0_0 : Int) (A0_1 : Option Addr) (c0_1 : Nat) (l0_1 : List (S56)) (A1 : Option Addr) (c1 : Nat) (l1 : List (List Int)) (r1 : Int) (r2 : Int) (w : World) (hr0_1 : Kd.C k56 w A0_1 l0_1.length l0_1) (hc0_1 : l0_1.length ≤ c0_1) (hr1 : Kd.C (Kd.slice 3 (Kd.int .i64)) w A1 l1.length l1) (hc1 : l1.length ≤ c1) (h : rot_Check.f k a0_0 l0_1 l1 = some (r1, r2)) :
   Calls Try.prog 34 #[.agg #[.int .i64 a0_0, .slice A0_1 l0_1.length c0_1], .slice A1 l1.length c1] w fun e w' => e = .returned (.tuple #[.int .i64 r1, .int .i64 r2]) ∧ Below w.heap.size w w' := by
 obtain ⟨t, ht, h⟩ := Option.bind_eq_some_iff.mp h
 have hv : Rot.ValidSays t a0_0 A0_1 l0_1.length c0_1 w := fun W hW => simple_Valid.calls k a0_0 A0_1 c0_1 l0_1 t W (Kd.C_below hr0_1 hW) hc0_1 ht
 cases t with
 | false =>
   rw [if_neg (by decide)] at h
   obtain ⟨rfl, rfl⟩ : 0 = r1 ∧ 1 = r2 := by simpa using h
   exact Rot.checkCall (0, 1) a0_0 A0_1 l0_1.length c0_1 A1 l1.length c1 w (.inr (by decide)) (fun w' hw' => Rot.check_invalid a0_0 A0_1 l0_1.length c0_1 A1 l1.length c1 w' (fun W hW => hv W (hw'.trans (hW.mono hw'.size))))
 | true =>
   rw [if_pos rfl] at h
   by_cases hm : (l1.length : Int) = a0_0
   · rw [if_pos hm] at h
     obtain ⟨d, hd, h⟩ := Option.bind_eq_some_iff.mp h
     unfold rot_Check.told at h
     by_cases hf : 0 ≤ a0_0 ∧ a0_0 ≤ 1048576 ∧ l0_1.length ≤ 4194304 ∧ (d.1.length : Int) = a0_0 ∧ d.2 = 0
     · rw [if_pos hf] at h
       obtain ⟨h0, h1, h2, h3, h4⟩ := hf
       obtain ⟨n, rfl⟩ := Int.eq_ofNat_of_zero_le h0
       obtain ⟨ds, e0⟩ := d
       simp only at h3 h4 h
       subst h4
       have hds : Rot.DegreesSays ds (n : Int) A0_1 l0_1.length c0_1 w := fun W hW => simple_Degrees.calls k n A0_1 c0_1 l0_1 ds 0 W (Kd.C_below hr0_1 hW) hc0_1 hd
       have hlm : (l0_1.map fun x => (x.f0, x.f1)).length = l0_1.length := List.length_map ..
       have hp := rot_Check.pairs hr0_1
       obtain ⟨es, hes⟩ : ∃ es, es = l0_1.map fun x => (x.f0, x.f1) := ⟨_, rfl⟩
       rw [← hes] at h hlm hp
       rw [← hlm] at hv hds h h2 ⊢
       obtain ⟨res, hres⟩ : ∃ res, res = Rot.rows (Rot.froms es) ds 0 l1 (List.replicate (2 * es.length) false) := ⟨_, rfl⟩
       have hz := Rot.rows_zero (Rot.froms es) ds l1 0 (List.replicate (2 * es.length) false)
       rw [← hres] at h hz
       have hres2 : res = (r1, r2) := by simpa using h
       have key := Rot.checkCall res (n : Int) A0_1 es.length c0_1 A1 l1.length c1 w hz (fun w' hw' => by
         rw [hres]
         exact Rot.check_rows n A0_1 c0_1 es A1 c1 l1 ds w' (fun W hW => hv W (hw'.trans (hW.mono hw'.size))) (fun W hW => hds W (hw'.trans (hW.mono hw'.size))) (hp.below hw') h2 (by omega) (Kd.C_below hr1 hw') (by omega) (by omega))
       rw [hres2] at key
       exact key
     · rw [if_neg hf] at h; cases h
   · rw [if_neg hm] at h
     obtain ⟨rfl, rfl⟩ : 0 = r1 ∧ 110 = r2 := by simpa using h
     by_cases hn : 0 ≤ a0_0
     · obtain ⟨n, rfl⟩ := Int.eq_ofNat_of_zero_le hn
       exact Rot.checkCall (0, 110) (n : Int) A0_1 l0_1.length c0_1 A1 l1.length c1 w (.inr (by decide)) (fun w' hw' => Rot.check_length n A0_1 l0_1.length c0_1 A1 l1.length c1 w' (fun W hW => hv W (hw'.trans (hW.mono hw'.size))) (by omega))
     · exact absurd ((ValH.goodB_iff _ _).1 (by simpa [simple_Valid.f] using ht)).1 hn
end Go.Proofs.Ytmikcfddipldnaa.GAll
namespace Go.Proofs.Ytmikcfddipldnaa.Rot
open Go.RowKit Go.Proofs.YtmikcfddipldnaaW.PrintWords Go.Proofs.YtmikcfddipldnaaW.PrintLast Go.Proofs.YtmikcfddipldnaaW.PrintMore Go.Proofs.Ytmikcfddipldnaa.GAll Go.Proofs.Ytmikcfddipldnaa.Mem
set_option linter.unusedVariables false
set_option linter.unusedSimpArgs false
abbrev Ed := PureV.E
def ends (l : List Ed) : List (Int × Int) := l.map fun x => (x.f0, x.f1)
theorem ends_length (l : List Ed) : (ends l).length = l.length := List.length_map ..
def frs (l : List Ed) : List Int := froms (ends l)
theorem frs_length (l : List Ed) : (frs l).length = 2 * l.length := by unfold frs; rw [froms_length, ends_length]
theorem froms_even : ∀ (es : List (Int × Int)) (i : Nat), i < es.length → gi (froms es) (2 * i) = (pe es i).1 ∧ gi (froms es) (2 * i + 1) = (pe es i).2
 | [], i, h => absurd h (by simp)
 | e :: es, 0, h => ⟨rfl, rfl⟩
 | e :: es, i + 1, h => froms_even es i (by simpa using h)
theorem pe_ends {l : List Ed} {i : Nat} (h : i < l.length) : pe (ends l) i = ((PureV.rdE l (i : Nat)).f0, (PureV.rdE l (i : Nat)).f1) := by
 have e : PureV.rdE l (i : Nat) = l[i] := by
   show l.getD ((i : Int).toNat) _ = _
   rw [Int.toNat_natCast, List.getD_eq_getElem?_getD, List.getElem?_eq_getElem h]
   rfl
 rw [e]
 unfold pe ends
 simp [List.getD_eq_getElem?_getD, h]
theorem frs_even {l : List Ed} {i : Nat} (h : i < l.length) : gi (frs l) (2 * i) = (PureV.rdE l (i : Nat)).f0 := by
 have := (froms_even (ends l) i (by rw [ends_length]; exact h)).1
 rw [pe_ends h] at this; exact this
theorem frs_odd {l : List Ed} {i : Nat} (h : i < l.length) : gi (frs l) (2 * i + 1) = (PureV.rdE l (i : Nat)).f1 := by
 have := (froms_even (ends l) i (by rw [ends_length]; exact h)).2
 rw [pe_ends h] at this; exact this
theorem frs_range {n : Int} {l : List Ed} (hg : PureV.Good n l) {h : Nat} (hh : h < 2 * l.length) : 0 ≤ gi (frs l) h ∧ gi (frs l) h < n := by
 have hi : h / 2 < l.length := by omega
 obtain ⟨⟨a, b, c⟩, _⟩ := hg.2.2.2 (h / 2) hi
 rcases Nat.mod_two_eq_zero_or_one h with e | e
 · have e2 : h = 2 * (h / 2) := by omega
   rw [e2, frs_even hi]; omega
 · have e2 : h = 2 * (h / 2) + 1 := by omega
   rw [e2, frs_odd hi]; omega
def cnt (fr : List Int) (m : Nat) (v : Int) : Nat := ((List.range m).filter fun j => gi fr j == v).length
theorem cnt_le (fr : List Int) (m : Nat) (v : Int) : cnt fr m v ≤ m := by
 have := List.length_filter_le (fun j => gi fr j == v) (List.range m)
 rw [List.length_range] at this
 exact this
theorem cnt_succ (fr : List Int) (m : Nat) (v : Int) : cnt fr (m + 1) v = cnt fr m v + if gi fr m = v then 1 else 0 := by
 unfold cnt
 rw [List.range_succ, List.filter_append, List.length_append]
 congr 1
 by_cases h : gi fr m = v
 · rw [if_pos h]; simp [h]
 · rw [if_neg h]; simp [h]
theorem leaving_cnt (fr : List Int) (v : Nat) : (leaving fr v).length = cnt fr fr.length v := by unfold leaving cnt; rw [List.length_map]
theorem cnt_put {fr : List Int} {n m : Nat} {ds : List Int} {x : Int} (hx : gi fr m = x) (h0 : 0 ≤ x) (h1 : x < n) (hl : ds.length = n) (hm : m ≤ 9000000) (h : ∀ v, v < n → gi ds v = (cnt fr m v : Int)) :
   ∀ v, v < n → gi (ds.set x.toNat (wrap64 (rd ds x + 1))) v = (cnt fr (m + 1) v : Int) := by
 intro v hv
 obtain ⟨y, rfl⟩ := Int.eq_ofNat_of_zero_le h0
 have hy : y < n := by omega
 have hc := cnt_le fr m y
 rw [gi_rd, h y hy, IntWalk.wrap64_in _ (by omega), gi_set, cnt_succ, Int.toNat_natCast, hx, hl]
 by_cases e : y = v
 · subst e
   rw [if_pos ⟨rfl, hv⟩, if_pos rfl]; omega
 · rw [if_neg (fun q => e q.1), if_neg (by omega), h v hv]; omega
theorem degrees_loop {n : Nat} {l : List Ed} (hg : PureV.Good (n : Int) l) (d : Nat) : ∀ (i : Nat) (ds : List Int), i + d = l.length → ds.length = n → (∀ v, v < n → gi ds v = (cnt (frs l) (2 * i) v : Int)) →
   ∃ ds', Ev (fun k => simple_Degrees.l0 k ds l (l.length : Int) (i : Int)) (ds', 0) ∧ ds'.length = n ∧ ∀ v, v < n → gi ds' v = (cnt (frs l) (2 * l.length) v : Int) := by
 induction d with
 | zero =>
   intro i ds hi hl hv
   refine ⟨ds, Ev.step (f := fun _ => some (ds, 0)) (fun k => ?_) (Ev.now _), hl, fun v h => ?_⟩
   · simp only [simple_Degrees.l0]
     rw [if_neg (by omega)]
   · rw [hv v h, show i = l.length by omega]
 | succ d ih =>
   intro i ds hi hl hv
   have hll := hg.2.2.1
   obtain ⟨⟨a, b, c⟩, _⟩ := hg.2.2.2 i (by omega)
   have h1 := cnt_put (n := n) (m := 2 * i) (fr := frs l) (ds := ds) (frs_even (l := l) (i := i) (by omega)) a (by omega) hl (by omega) hv
   have h2 := cnt_put (n := n) (fr := frs l) (m := 2 * i + 1) (frs_odd (l := l) (i := i) (by omega)) (by omega) c (by rw [List.length_set]; exact hl) (by omega) h1
   obtain ⟨ds', e1, e2, e3⟩ := ih (i + 1) _ (by omega) (List.length_set.trans (List.length_set.trans hl)) h2
   refine ⟨ds', Ev.step (fun k => ?_) e1, e2, e3⟩
   simp only [simple_Degrees.l0]
   rw [if_pos (by omega), if_pos (show (0 : Int) ≤ (i : Int) by omega), if_pos (show (i : Int) < (l.length : Int) by omega)]
   change (if 0 ≤ (PureV.rdE l (i : Nat)).f0 then _ else _) = _
   rw [if_pos a]
   change (if (PureV.rdE l (i : Nat)).f0 < (ds.length : Int) then _ else _) = _
   rw [if_pos (by omega), Option.bind_some]
   change (if 0 ≤ (PureV.rdE l (i : Nat)).f1 then _ else _) = _
   rw [if_pos (by omega)]
   change (if (PureV.rdE l (i : Nat)).f1 < (ds.length : Int) then _ else _) = _
   rw [if_pos (by omega), PureV.wadd (i := i) (by omega)]
theorem degrees_ev {n : Nat} {l : List Ed} (hg : PureV.Good (n : Int) l) (hv : Ev (fun k => simple_Valid.f k (n : Int) l) true) :
   ∃ ds, Ev (fun k => simple_Degrees.f k (n : Int) l) (ds, 0) ∧ ds.length = n ∧ ∀ v, v < n → gi ds v = ((leaving (frs l) v).length : Int) := by
 obtain ⟨ds, e1, e2, e3⟩ := degrees_loop hg l.length 0 (List.replicate n 0) (by omega) (by simp) (fun v h => by
   unfold gi cnt
   simp [List.getD_eq_getElem?_getD, List.getElem?_replicate, h])
 refine ⟨ds, ?_, e2, fun v h => by rw [e3 v h, leaving_cnt, frs_length]⟩
 unfold simple_Degrees.f
 refine Ev.bind hv ?_
 have := hg.2.1
 refine Ev.congr (fun k => ?_) e1
 rw [if_pos rfl, if_pos (by omega), if_pos (by omega)]
 rfl
theorem check_no {n : Int} {l : List Ed} {r : List (List Int)} (hv : Ev (fun k => simple_Valid.f k n l) false) : Ev (fun k => rot_Check.f k n l r) (0, 1) := by
 unfold rot_Check.f
 refine Ev.bind hv ?_
 exact Ev.congr (fun k => if_neg (by decide)) (Ev.now _)
theorem check_len {n : Int} {l : List Ed} {r : List (List Int)} (hv : Ev (fun k => simple_Valid.f k n l) true) (h : (r.length : Int) ≠ n) : Ev (fun k => rot_Check.f k n l r) (0, 110) := by
 unfold rot_Check.f
 refine Ev.bind hv ?_
 exact Ev.congr (fun k => by rw [if_pos rfl, if_neg h]) (Ev.now _)
theorem check_all {n : Nat} {l : List Ed} {r : List (List Int)} (hg : PureV.Good (n : Int) l) (hv : Ev (fun k => simple_Valid.f k (n : Int) l) true) (h : r.length = n) {ds : List Int} (hd : Ev (fun k => simple_Degrees.f k (n : Int) l) (ds, 0)) (hl : ds.length = n) :
   Ev (fun k => rot_Check.f k (n : Int) l r) (rows (frs l) ds 0 r (List.replicate (frs l).length false)) := by
 unfold rot_Check.f
 refine Ev.bind hv ?_
 refine Ev.congr (f := fun k => (simple_Degrees.f k (n : Int) l).bind fun d => rot_Check.told n l r d) (fun k => by rw [if_pos rfl, if_pos (by omega)]) ?_
 refine Ev.bind hd ?_
 refine Ev.congr (fun k => ?_) (Ev.now _)
 have h1 := hg.2.1
 have h2 := hg.2.2.1
 unfold rot_Check.told
 rw [if_pos ⟨by omega, h1, h2, by simp only; omega, rfl⟩, frs_length]
 rfl
theorem check_ev (n : Int) (l : List Ed) (r : List (List Int)) : ∃ res, Ev (fun k => rot_Check.f k n l r) res ∧ (res.2 = 0 → res = (0, 0)) ∧ (res.2 = 0 ↔ ∃ N : Nat, n = N ∧ PureV.Good n l ∧ IsRot (frs l) N r) := by
 obtain ⟨b, hb, _, hg⟩ := PureV.valid n l
 cases b with
 | false =>
   refine ⟨_, check_no hb, fun h => by simp at h, ⟨fun h => by simp at h, ?_⟩⟩
   rintro ⟨N, rfl, h, _⟩
   exact absurd (hg.2 h) (by decide)
 | true =>
   have hG := hg.1 rfl
   by_cases hl : (r.length : Int) = n
   · obtain ⟨N, rfl⟩ := Int.eq_ofNat_of_zero_le hG.1
     have hl2 : r.length = N := by omega
     obtain ⟨ds, hd, h1, h2⟩ := degrees_ev hG hb
     have hz := rows_zero (frs l) ds r 0 (List.replicate (frs l).length false)
     refine ⟨_, check_all hG hb hl2 hd h1, fun h => hz.resolve_right (fun q => q h), ?_⟩
     constructor
     · intro h
       exact ⟨N, rfl, hG, (isRot_of hl2 h2).1 (hz.resolve_right (fun q => q h))⟩
     · rintro ⟨M, e, _, h⟩
       obtain rfl : N = M := by omega
       rw [(isRot_of hl2 h2).2 h]
   · refine ⟨_, check_len hb hl, fun h => by simp at h, ⟨fun h => by simp at h, ?_⟩⟩
     rintro ⟨N, rfl, _, h⟩
     exact absurd h.len (by omega)
def NextOf (r : List (List Int)) (m : Nat) (nx : List Int) : Prop := nx.length = m ∧ ∀ v, v < r.length → ∀ j, j < (gl r v).length → gi nx (gi (gl r v) j).toNat = gi (gl r v) ((j + 1) % (gl r v).length)
theorem gi_mem {l : List Int} {j : Nat} (h : j < l.length) : gi l j ∈ l := by
 unfold gi
 rw [List.getD_eq_getElem?_getD, List.getElem?_eq_getElem h]
 exact List.getElem_mem h
theorem mem_gi {l : List Int} {x : Int} (h : x ∈ l) : ∃ j, j < l.length ∧ gi l j = x := by
 obtain ⟨j, hj, e⟩ := List.getElem_of_mem h
 exact ⟨j, hj, by unfold gi; rw [List.getD_eq_getElem?_getD, List.getElem?_eq_getElem hj]; exact e⟩
theorem gi_inj {l : List Int} (hn : l.Nodup) {i j : Nat} (hi : i < l.length) (hj : j < l.length) (e : gi l i = gi l j) : i = j := by
 unfold gi at e
 rw [List.getD_eq_getElem?_getD, List.getD_eq_getElem?_getD, List.getElem?_eq_getElem hi, List.getElem?_eq_getElem hj, Option.getD_some, Option.getD_some] at e
 rcases Nat.lt_trichotomy i j with q | q | q
 · exact absurd e (List.pairwise_iff_getElem.1 hn i j hi hj q)
 · exact q
 · exact absurd e.symm (List.pairwise_iff_getElem.1 hn j i hj hi q)
section
variable {fr : List Int} {n : Nat} {r : List (List Int)}
theorem IsRot.at (h : IsRot fr n r) {v j : Nat} (hv : v < n) (hj : j < (gl r v).length) : 0 ≤ gi (gl r v) j ∧ gi (gl r v) j < (fr.length : Int) ∧ gi fr (gi (gl r v) j).toNat = v := leaves_iff.1 ((h.mem v hv _).1 (gi_mem hj))
theorem IsRot.place (h : IsRot fr n r) (hf : ∀ x, x < fr.length → 0 ≤ gi fr x ∧ gi fr x < n) {x : Nat} (hx : x < fr.length) : ∃ v j, v < n ∧ gi fr x = (v : Int) ∧ j < (gl r v).length ∧ gi (gl r v) j = (x : Int) := by
 obtain ⟨h0, h1⟩ := hf x hx
 obtain ⟨v, hv⟩ := Int.eq_ofNat_of_zero_le h0
 have hvn : v < n := by omega
 obtain ⟨j, hj, e⟩ := mem_gi ((h.mem v hvn (x : Int)).2 (leaves_iff.2 ⟨by omega, by omega, by rw [Int.toNat_natCast]; exact hv⟩))
 exact ⟨v, j, hvn, hv, hj, e⟩
theorem IsRot.inj (h : IsRot fr n r) {u v i j : Nat} (hu : u < n) (hv : v < n) (hi : i < (gl r u).length) (hj : j < (gl r v).length) (e : (gi (gl r u) i).toNat = (gi (gl r v) j).toNat) : u = v ∧ i = j := by
 obtain ⟨a1, a2, a3⟩ := h.at hu hi
 obtain ⟨b1, b2, b3⟩ := h.at hv hj
 obtain rfl : u = v := by rw [e, b3] at a3; omega
 exact ⟨rfl, gi_inj (h.nodup u hu) hi hj (by omega)⟩
end
theorem tmod_nat (a b : Nat) : Int.tmod (a : Int) (b : Int) = ((a % b : Nat) : Int) := rfl
end Go.Proofs.Ytmikcfddipldnaa.Rot
namespace Go.Proofs.Ytmikcfddipldnaa.Rot
open Go.RowKit Go.Proofs.YtmikcfddipldnaaW.PrintWords Go.Proofs.YtmikcfddipldnaaW.PrintLast Go.Proofs.YtmikcfddipldnaaW.PrintMore Go.Proofs.Ytmikcfddipldnaa.GAll Go.Proofs.Ytmikcfddipldnaa.Mem
set_option linter.unusedVariables false
set_option linter.unusedSimpArgs false
theorem setRow_at {row nx : List Int} (hin : ∀ j, j < row.length → (gi row j).toNat < nx.length) (hinj : ∀ i j, i < row.length → j < row.length → (gi row i).toNat = (gi row j).toNat → i = j) : ∀ i, i ≤ row.length →
   (∀ j, j < i → gi (Graph.setRow row nx i) (gi row j).toNat = gi row ((j + 1) % row.length)) ∧ ∀ x, (∀ j, j < i → (gi row j).toNat ≠ x) → gi (Graph.setRow row nx i) x = gi nx x
 | 0, _ => ⟨fun j h => absurd h (by omega), fun x _ => rfl⟩
 | i + 1, hi => by
   obtain ⟨h1, h2⟩ := setRow_at hin hinj i (by omega)
   have hl : (Graph.setRow row nx i).length = nx.length := Graph.setRow_length row nx i
   constructor
   · intro j hj
     show gi ((Graph.setRow row nx i).set (gi row i).toNat (gi row ((i + 1) % row.length))) _ = _
     rw [gi_set]
     by_cases e : (gi row i).toNat = (gi row j).toNat
     · obtain rfl := hinj i j (by omega) (by omega) e
       rw [if_pos ⟨rfl, by rw [hl]; exact hin i (by omega)⟩]
     · rw [if_neg (fun q => e q.1)]
       exact h1 j (by rcases Nat.lt_or_eq_of_le (Nat.le_of_lt_succ hj) with q | rfl; exact q; exact absurd rfl e)
   · intro x hx
     show gi ((Graph.setRow row nx i).set (gi row i).toNat (gi row ((i + 1) % row.length))) _ = _
     rw [gi_set, if_neg (fun q => hx i (by omega) q.1)]
     exact h2 x (fun j hj => hx j (by omega))
theorem setRows_at {fr : List Int} {n : Nat} {r : List (List Int)} (h : IsRot fr n r) : ∀ v, v ≤ n → ∀ u, u < v → ∀ j, j < (gl r u).length → gi (Graph.setRows r fr.length v) (gi (gl r u) j).toNat = gi (gl r u) ((j + 1) % (gl r u).length)
 | 0, _, u, hu, _, _ => absurd hu (by omega)
 | v + 1, hv, u, hu, j, hj => by
   have ih := setRows_at h v (by omega)
   have key := setRow_at (row := gl r v) (nx := Graph.setRows r fr.length v) (fun i hi => by
     rw [Graph.setRows_length]
     obtain ⟨a, b, _⟩ := h.at (show v < n by omega) hi
     omega) (fun i i2 hi hi2 e => (h.inj (by omega) (by omega) hi hi2 e).2) (gl r v).length (Nat.le_refl _)
   show gi (Graph.setRow (gl r v) (Graph.setRows r fr.length v) (gl r v).length) _ = _
   by_cases e : u = v
   · subst e
     exact key.1 j hj
   · rw [key.2 _ (fun i hi q => e (h.inj (show v < n by omega) (show u < n by omega) hi hj q).1.symm)]
     exact ih u (by omega) j hj
theorem nextOf_nxL {fr : List Int} {n : Nat} {r : List (List Int)} (h : IsRot fr n r) : NextOf r fr.length (Graph.nxL r fr.length) := by
 refine ⟨Graph.setRows_length r fr.length r.length, fun v hv j hj => ?_⟩
 unfold Graph.nxL
 exact setRows_at h r.length (by rw [h.len]; exact Nat.le_refl _) v hv j hj
theorem row_len {fr : List Int} {n : Nat} {r : List (List Int)} (h : IsRot fr n r) {v : Nat} (hv : v < n) : (gl r v).length = cnt fr fr.length v := by
 have h1 := nodup_subset (gl r v) (leaving fr v) (h.nodup v hv) (fun x hx => mem_leaving.2 ((h.mem v hv x).1 hx))
 have h2 := nodup_subset (leaving fr v) (gl r v) (leaving_nodup fr v) (fun x hx => (h.mem v hv x).2 (mem_leaving.1 hx))
 rw [leaving_cnt] at h1 h2
 omega
theorem next_in {fr : List Int} {n : Nat} {r : List (List Int)} {nx : List Int} (h : IsRot fr n r) (hx : NextOf r fr.length nx) (hf : ∀ x, x < fr.length → 0 ≤ gi fr x ∧ gi fr x < n) {x : Nat} (hh : x < fr.length) : 0 ≤ gi nx x ∧ gi nx x < (fr.length : Int) ∧ gi fr (gi nx x).toNat = gi fr x := by
 obtain ⟨v, j, h1, h2, h3, h4⟩ := h.place hf hh
 have := hx.2 v (by rw [h.len]; exact h1) j h3
 rw [h4, Int.toNat_natCast] at this
 have q := h.at h1 (Nat.mod_lt (j + 1) (show 0 < (gl r v).length by omega))
 rw [this, h2]
 exact q
section
variable {n : Nat} {l : List Ed} {r : List (List Int)}
abbrev nxOf (l : List Ed) (r : List (List Int)) : List Int := Graph.nxL r (2 * l.length)
theorem nxOf_next (h : IsRot (frs l) n r) : NextOf r (frs l).length (nxOf l r) := by
 have := nextOf_nxL h
 rw [frs_length] at this ⊢
 exact this
theorem frs_in (hg : PureV.Good (n : Int) l) : ∀ x, x < (frs l).length → 0 ≤ gi (frs l) x ∧ gi (frs l) x < (n : Int) := fun x hx => frs_range hg (by rw [frs_length] at hx; exact hx)
theorem degs_of {ds : List Int} (hd : ds.length = n) (hv : ∀ v, v < n → gi ds v = ((leaving (frs l) v).length : Int)) : ds = Graph.degs (ends l) n := by
 have hl : (Graph.degs (ends l) n).length = n := by unfold Graph.degs; simp
 refine List.ext_getElem (by rw [hd, hl]) (fun v h1 h2 => ?_)
 have a := hv v (by omega)
 have b := Graph.gi_degs (es := ends l) (n := n) (v := v) (by omega)
 rw [leaving_cnt] at a
 have c : gi ds v = gi (Graph.degs (ends l) n) v := by rw [a, b]; rfl
 unfold gi at c
 rw [List.getD_eq_getElem?_getD, List.getD_eq_getElem?_getD, List.getElem?_eq_getElem h1, List.getElem?_eq_getElem h2] at c
 exact c
end
end Go.Proofs.Ytmikcfddipldnaa.Rot
namespace Go.Proofs.Ytmikcfddipldnaa.GAll
open Go.RowKit Go.Proofs.YtmikcfddipldnaaW.PrintWords Go.Proofs.YtmikcfddipldnaaW.PrintLast Go.Proofs.YtmikcfddipldnaaW.PrintMore
attribute [local go_sem] max2_int min2_int max_two min_two max_three min_three max_four min_four   -- for this text's walks alone
set_option linter.unusedVariables false
set_option linter.unusedSimpArgs false
def rot_Next.fit (m : Nat) (r : List (List Int)) : Bool := decide (m ≤ 4194304) && (decide (r.length ≤ 1048576) && r.all fun row => decide (row.length ≤ 8388608) && row.all fun h => decide (0 ≤ h ∧ h < ((2 * m : Nat) : Int)))
def rot_Next.f (k : Nat) (a0_0 : Int) (l0_1 : List S56) (l1 : List (List Int)) : Option (List Int × Int) := (rot_Check.f k a0_0 l0_1 l1).bind fun t => if t.2 = 0 then (if rot_Next.fit l0_1.length l1 = true then some (Graph.nxL l1 (2 * l0_1.length), 0) else none) else some ([], t.2)
theorem rot_Next.mono : ∀ a0 a1 a2 k, LeO (rot_Next.f k a0 a1 a2) (rot_Next.f (k + 1) a0 a1 a2) := by
 intro a0 a1 a2 k
 unfold rot_Next.f
 exact LeO.bind (rot_Check.mono _ _ _ _) (fun _ => LeO.refl _)
theorem rot_Next.at_ {m : Nat} {r : List (List Int)} (h : rot_Next.fit m r = true) : m ≤ 4194304 ∧ r.length ≤ 1048576 ∧ (∀ v, v < r.length → (Mem.gl r v).length ≤ 8388608) ∧ ∀ v i, v < r.length → i < (Mem.gl r v).length → 0 ≤ Mem.gi (Mem.gl r v) i ∧ Mem.gi (Mem.gl r v) i < ((2 * m : Nat) : Int) := by
 unfold rot_Next.fit at h
 rw [Bool.and_eq_true, Bool.and_eq_true, List.all_eq_true, decide_eq_true_eq, decide_eq_true_eq] at h
 have hm : ∀ v, v < r.length → Mem.gl r v ∈ r := fun v hv => by
   unfold Mem.gl
   rw [List.getD_eq_getElem?_getD, List.getElem?_eq_getElem hv]
   exact List.getElem_mem hv
 refine ⟨h.1, h.2.1, fun v hv => ?_, fun v i hv hi => ?_⟩
 · have h2 := h.2.2 _ (hm v hv)
   rw [Bool.and_eq_true, decide_eq_true_eq] at h2
   exact h2.1
 · have h2 := h.2.2 _ (hm v hv)
   rw [Bool.and_eq_true, List.all_eq_true] at h2
   have h3 : Mem.gi (Mem.gl r v) i ∈ Mem.gl r v := by
     unfold Mem.gi
     rw [List.getD_eq_getElem?_getD, List.getElem?_eq_getElem hi]
     exact List.getElem_mem hi
   exact of_decide_eq_true (h2.2 _ h3)
theorem rot_Next.calls (k : Nat) (a0_0 : Int) (A0_1 : Option Addr) (c0_1 : Nat) (l0_1 : List (S56)) (A1 : Option Addr) (c1 : Nat) (l1 : List (List Int)) (r1 : List Int) (r2 : Int) (w : World) (hr0_1 : Kd.C k56 w A0_1 l0_1.length l0_1) (hc0_1 : l0_1.length ≤ c0_1) (hr1 : Kd.C (Kd.slice 3 (Kd.int .i64)) w A1 l1.length l1) (hc1 : l1.length ≤ c1) (h : rot_Next.f k a0_0 l0_1 l1 = some (r1, r2)) :
   Calls Try.prog 22 #[.agg #[.int .i64 a0_0, .slice A0_1 l0_1.length c0_1], .slice A1 l1.length c1] w fun e w' => ∃ v0_ : Value, e = .returned (.tuple #[v0_, .int .i64 r2]) ∧ Kd.R (Kd.int .i64) 3 w' w.heap.size (fun _ => True) v0_ r1 ∧ Below w.heap.size w w' := by
 obtain ⟨⟨v0, e0⟩, ht, h⟩ := Option.bind_eq_some_iff.mp h
 have hck : ∀ W : World, Below w.heap.size w W → Calls Try.prog 34 #[.agg #[.int .i64 a0_0, .slice A0_1 l0_1.length c0_1], .slice A1 l1.length c1] W fun e w' => e = .returned (.tuple #[.int .i64 v0, .int .i64 e0]) ∧ Below W.heap.size W w' :=
   fun W hW => rot_Check.calls k a0_0 A0_1 c0_1 l0_1 A1 c1 l1 v0 e0 W (Kd.C_below hr0_1 hW) hc0_1 (Kd.C_below hr1 hW) hc1 ht
 by_cases he : e0 = 0
 · subst he
   rw [if_pos rfl] at h
   by_cases hf : rot_Next.fit l0_1.length l1 = true
   · rw [if_pos hf] at h
     obtain ⟨g1, g2, g3, g4⟩ := rot_Next.at_ hf
     obtain ⟨rfl, rfl⟩ : Graph.nxL l1 (2 * l0_1.length) = r1 ∧ 0 = r2 := by simpa using h
     exact Graph.next_ok a0_0 A0_1 l0_1.length c0_1 A1 c1 l1 v0 w hr1 g1 g4 (fun v hv => Nat.le_trans (g3 v hv) (by decide)) (Nat.le_trans g2 (by decide)) hck
   · rw [if_neg hf] at h; cases h
 · rw [if_neg he] at h
   obtain ⟨rfl, rfl⟩ : ([] : List Int) = r1 ∧ e0 = r2 := by simpa using h
   exact Graph.next_bad a0_0 A0_1 l0_1.length c0_1 A1 l1.length c1 v0 e0 he w hck
end Go.Proofs.Ytmikcfddipldnaa.GAll
namespace Go.Proofs.Ytmikcfddipldnaa.GAll
open Go.RowKit Go.Proofs.YtmikcfddipldnaaW.PrintWords Go.Proofs.YtmikcfddipldnaaW.PrintLast Go.Proofs.YtmikcfddipldnaaW.PrintMore
attribute [local go_sem] max2_int min2_int max_two min_two max_three min_three max_four min_four   -- for this text's walks alone
set_option linter.unusedVariables false
set_option linter.unusedSimpArgs false
theorem comps_Of.pairs {w : World} {A : Option Addr} {l : List S56} (h : Kd.C k56 w A l.length l) : Sets.Pairs w A (l.map fun x => (x.f0, x.f1)) := by
 intro i hi
 rw [List.length_map] at hi
 obtain ⟨ad, e, h1, h2⟩ := at_T56 h (i : Int) (by omega) (by omega)
 have e2 : Sets.pe (l.map fun x => (x.f0, x.f1)) i = ((rd_T56 l (i : Int)).f0, (rd_T56 l (i : Int)).f1) := by
   unfold Sets.pe rd_T56
   simp [List.getD_eq_getElem?_getD, hi]
 rw [e2]
 exact ⟨ad, e, h1, h2⟩
def comps_Of.out (n : Int) (l : List S56) : List Nat × Nat := Sets.numTo (Sets.joinAll (List.range n.toNat) (l.map fun x => (x.f0, x.f1))) n.toNat
def comps_Of.f (k : Nat) (a0_0 : Int) (l0_1 : List S56) : Option (List Int × Int × Int) := (simple_Valid.f k a0_0 l0_1).bind fun t => if t = true then (if 0 ≤ a0_0 ∧ a0_0 ≤ 1048576 then some ((comps_Of.out a0_0 l0_1).1.map (fun (x : Nat) => (x : Int)), (((comps_Of.out a0_0 l0_1).2 : Nat) : Int), 0) else none) else some ([], 0, 1)
theorem comps_Of.mono : ∀ a0 a1 k, LeO (comps_Of.f k a0 a1) (comps_Of.f (k + 1) a0 a1) := by
 intro a0 a1 k
 unfold comps_Of.f
 exact LeO.bind (simple_Valid.mono _ _ _) (fun _ => LeO.refl _)
set_option maxHeartbeats 1000000 in
set_option maxRecDepth 100000 in
theorem comps_Of.calls (k : Nat) (a0_0 : Int) (A0_1 : Option Addr) (c0_1 : Nat) (l0_1 : List (S56)) (r1 : List Int) (r2 : Int) (r3 : Int) (w : World) (hr0_1 : Kd.C k56 w A0_1 l0_1.length l0_1) (hc0_1 : l0_1.length ≤ c0_1) (h : comps_Of.f k a0_0 l0_1 = some (r1, r2, r3)) :
   Calls Try.prog 24 #[.agg #[.int .i64 a0_0, .slice A0_1 l0_1.length c0_1]] w fun e w' => ∃ v0_ : Value, e = .returned (.tuple #[v0_, .int .i64 r2, .int .i64 r3]) ∧ Kd.R (Kd.int .i64) 3 w' w.heap.size (fun _ => True) v0_ r1 ∧ Below w.heap.size w w' := by
 obtain ⟨t, ht, h⟩ := Option.bind_eq_some_iff.mp h
 cases t with
 | false =>
   rw [if_neg (by decide)] at h
   obtain ⟨rfl, rfl, rfl⟩ : [] = r1 ∧ 0 = r2 ∧ 1 = r3 := by simpa using h
   have hv : Sets.SaysNo a0_0 A0_1 l0_1.length c0_1 w := fun W hW => simple_Valid.calls k a0_0 A0_1 c0_1 l0_1 false W (Kd.C_below hr0_1 hW) hc0_1 ht
   exact (Sets.of_no a0_0 A0_1 l0_1.length c0_1 w hv).mono fun e w' ⟨h1, h2⟩ => ⟨_, h1, Kd.R_nil _ _ _ _ _, h2⟩
 | true =>
   rw [if_pos rfl] at h
   by_cases hn : 0 ≤ a0_0 ∧ a0_0 ≤ 1048576
   · rw [if_pos hn] at h
     obtain ⟨n, rfl⟩ := Int.eq_ofNat_of_zero_le hn.1
     have hn3 : n ≤ 1048576 := Int.ofNat_le.1 hn.2
     have ho : comps_Of.out (n : Int) l0_1 = Sets.numTo (Sets.joinAll (List.range n) (l0_1.map fun x => (x.f0, x.f1))) n := by unfold comps_Of.out; rw [Int.toNat_natCast]
     rw [ho] at h
     have hv : Sets.SaysYes (n : Int) A0_1 (l0_1.map fun x => (x.f0, x.f1)).length c0_1 w := fun W hW => by
       rw [List.length_map]; exact simple_Valid.calls k _ A0_1 c0_1 l0_1 true W (Kd.C_below hr0_1 hW) hc0_1 ht
     have hl : (l0_1.map fun x => (x.f0, x.f1)).length ≤ 9223372036854775807 := by rw [List.length_map]; exact Sets.C_le hr0_1
     have hc := Sets.of_yes n A0_1 c0_1 (l0_1.map fun x => (x.f0, x.f1)) w
     have hc := hc hv
     have hc := hc hn3 (comps_Of.pairs hr0_1) hl
     rw [List.length_map] at hc
     refine hc.mono fun e w' ⟨bo, h1, h2, h3, h4⟩ => ?_
     simp only [Option.some.injEq, Prod.mk.injEq] at h
     obtain ⟨rfl, rfl, rfl⟩ := h
     have hn2 := Sets.numTo_length (Sets.joinAll (List.range n) (l0_1.map fun x => (x.f0, x.f1))) n
     have hr := Sets.row_own (ok := fun _ => True) h3 h2 (by rw [hn2]; exact Nat.le_trans hn3 (by decide)) trivial
     rw [hn2] at hr
     exact ⟨_, h1, hr, h4⟩
   · rw [if_neg hn] at h; cases h
end Go.Proofs.Ytmikcfddipldnaa.GAll
namespace Go.Proofs.Ytmikcfddipldnaa.GAll
open Go.RowKit Go.Proofs.YtmikcfddipldnaaW.PrintWords Go.Proofs.YtmikcfddipldnaaW.PrintLast Go.Proofs.YtmikcfddipldnaaW.PrintMore
attribute [local go_sem] max2_int min2_int max_two min_two max_three min_three max_four min_four   -- for this text's walks alone
set_option linter.unusedVariables false
set_option linter.unusedSimpArgs false
mutual
def tangramref05_New.j0 : Nat → Int → Bool → Option (List Int × Int)
 | 0, _, _ => none
 | k + 1, x0, x11 => if x11 = true then (some (([] : List Int), 2)) else (tangramref05_New.l0 k x0 ([] : List Int) 0)
def tangramref05_New.l0 : Nat → Int → List Int → Int → Option (List Int × Int)
 | 0, _, _, _ => none
 | k + 1, x0, x4, x5 => if x5 < x0 then (if x4.length < 17592186044416 then (tangramref05_New.l0 k x0 (x4 ++ [x5]) (wrap64 (x5 + 1))) else (none)) else (some (x4, 0))
end
def tangramref05_New.f (k : Nat) (a0 : Int) : Option (List Int × Int) := if a0 < 0 then (tangramref05_New.j0 k a0 true) else (tangramref05_New.j0 k a0 (decide (a0 > 1048576)))
theorem tangramref05_New.mono_l : ∀ k, (∀ y0 y1, LeO (tangramref05_New.j0 k y0 y1) (tangramref05_New.j0 (k + 1) y0 y1)) ∧ (∀ y0 y1 y2, LeO (tangramref05_New.l0 k y0 y1 y2) (tangramref05_New.l0 (k + 1) y0 y1 y2))
 | 0 => ⟨fun _ _ r h => by simp [tangramref05_New.j0] at h, fun _ _ _ r h => by simp [tangramref05_New.l0] at h⟩
 | k + 1 => by
   obtain ⟨ih0, ih1⟩ := tangramref05_New.mono_l k
   refine ⟨?_, ?_⟩
   · intro y0 y1
     unfold tangramref05_New.j0
     repeat' first
     | (with_reducible exact ih0 _ _)
     | (with_reducible exact ih1 _ _ _)
     | (with_reducible exact LeO.refl _)
     | (with_reducible exact LeO.none _)
     | (with_reducible refine LeO.ite ?_ ?_)
     | (with_reducible refine LeO.bind ?_ (fun _ => ?_))
     | exact ih0 _ _
     | exact ih1 _ _ _
     | exact LeO.none _
     | refine LeO.ite ?_ ?_
     | refine LeO.bind ?_ (fun _ => ?_)
   · intro y0 y1 y2
     unfold tangramref05_New.l0
     repeat' first
     | (with_reducible exact ih0 _ _)
     | (with_reducible exact ih1 _ _ _)
     | (with_reducible exact LeO.refl _)
     | (with_reducible exact LeO.none _)
     | (with_reducible refine LeO.ite ?_ ?_)
     | (with_reducible refine LeO.bind ?_ (fun _ => ?_))
     | exact ih0 _ _
     | exact ih1 _ _ _
     | exact LeO.none _
     | refine LeO.ite ?_ ?_
     | refine LeO.bind ?_ (fun _ => ?_)
theorem tangramref05_New.mono : ∀ a0 k, LeO (tangramref05_New.f k a0) (tangramref05_New.f (k + 1) a0) := by
 intro a0 k
 obtain ⟨ih0, ih1⟩ := tangramref05_New.mono_l k
 unfold tangramref05_New.f
 repeat' first
     | (with_reducible exact ih0 _ _)
     | (with_reducible exact ih1 _ _ _)
     | (with_reducible exact LeO.refl _)
     | (with_reducible exact LeO.none _)
     | (with_reducible refine LeO.ite ?_ ?_)
     | (with_reducible refine LeO.bind ?_ (fun _ => ?_))
     | exact ih0 _ _
     | exact ih1 _ _ _
     | exact LeO.none _
     | refine LeO.ite ?_ ?_
     | refine LeO.bind ?_ (fun _ => ?_)
set_option maxHeartbeats 8000000 in
set_option maxRecDepth 100000 in
theorem tangramref05_New.calls (k : Nat) (a0 : Int) (r1 : List Int) (r2 : Int) (w : World) (h : tangramref05_New.f k a0 = some (r1, r2)) :
   Calls Try.prog 48 #[.int .i64 a0] w fun e w' => ∃ v0_ : Value, e = .returned (.tuple #[v0_, .int .i64 r2]) ∧ Kd.R (Kd.int .i64) 3 w' w.heap.size (fun _ => True) v0_ r1 ∧ Below w.heap.size w w' := by
 have HB := Aside0.mk (Below.refl w.heap.size w)
 have H : (if a0 < 0 then (tangramref05_New.j0 k a0 true) else (tangramref05_New.j0 k a0 (decide (a0 > 1048576)))) = some (r1, r2) := h
 clear h
 have HC2 := Aside0.mk H
 clear H
 go_enter Try.func48, Try.ntmps48
 go_upto_region 1 with (fail)
 go_cut [11] (fun v11 wc => ∃ (kq : Nat) (x11_1 : Bool), v11 = .bool x11_1 ∧ Aside0 (tangramref05_New.j0 kq a0 x11_1 = some (r1, r2)) ∧ Aside0 (kq ≤ k) ∧ Aside0 (Below w.heap.size w wc))
 case first =>
   have H := HC2.out
   clear HC2
   by_cases c3 : a0 < 0
   · rw [if_pos c3] at H
     have c3b0 : decide (a0 < 0) = true := decide_eq_true c3
     clear c3
     (first | rw [c3b0] | (simp only [i64_w, i32_w]; rw [c3b0]) | skip)
     have H' := Aside0.mk H
     clear H
     go_wp2
     go_meet
     case rel => exact ⟨_, (true), (by first | rfl | (simp; done) | (simp [*]; done)), H', ⟨by first | omega | exact Nat.le_refl _⟩, ⟨by repeat (first | (with_reducible first | exact HB.out | apply below_alloc | apply pw_below_drewN | apply below_drew1) | exact HB.out)⟩⟩
   · rw [if_neg c3] at H
     have c3b0 : decide (a0 < 0) = false := decide_eq_false c3
     clear c3
     (first | rw [c3b0] | (simp only [i64_w, i32_w]; rw [c3b0]) | skip)
     have H' := Aside0.mk H
     clear H
     go_wp2
     go_meet
     case rel => exact ⟨_, (decide (a0 > 1048576)), (by first | rfl | (simp; done) | (simp [*]; done)), H', ⟨by first | omega | exact Nat.le_refl _⟩, ⟨by repeat (first | (with_reducible first | exact HB.out | apply below_alloc | apply pw_below_drewN | apply below_drew1) | exact HB.out)⟩⟩
 case rest =>
   clear HC2
   try clear p2
   try clear c3
   try clear c3b0
   obtain ⟨kq, x11_1, rfl, HA, HJ1, HB⟩ := hcut
   cases kq with
   | zero => exact absurd HA.out (by simp [tangramref05_New.j0])
   | succ kj1 =>
     have H := HA.out
     clear HA
     simp only [tangramref05_New.j0] at H
     by_cases c4 : x11_1 = true
     · subst c4
       have H1 : (some (([] : List Int), 2)) = some (r1, r2) := by rw [if_pos rfl] at H; exact H
       clear H
       have H := H1
       clear H1
       simp only [Option.some.injEq, Prod.mk.injEq] at H
       obtain ⟨rfl, rfl⟩ := H
       go_wp2
       go_ret2
       exact ⟨_, by first | rfl | (simp [errW_none, errW_some] <;> rfl) | (simp [*, errW_none, errW_some] <;> rfl), by first | exact Kd.R_nil _ _ _ _ _ | exact Kd.N_nil _ _ _ _ _ | exact Kd.V_nil _ _ _ _ _ | exact Kd.Q_nil _ _ _ _ _ | exact Kd.S_nil _ _ _ _ _, by repeat (first | (with_reducible first | exact HB.out | apply below_alloc | apply pw_below_drewN | apply below_drew1) | exact HB.out)⟩
     · replace c4 := Bool.eq_false_iff.mpr c4
       subst c4
       have H1 : (tangramref05_New.l0 kj1 a0 ([] : List Int) 0) = some (r1, r2) := by rw [if_neg (show ¬ (false = true) by decide)] at H; exact H
       clear H
       have H := H1
       clear H1
       have H' := Aside0.mk H
       clear H
       go_wp2
       go_loopg [4, 5] kj1 (fun kq v4 v5 w' => ∃ (x4_2 : List Int) (x5_2 : Int), v5 = .int .i64 x5_2 ∧ Aside0 (tangramref05_New.l0 kq a0 x4_2 x5_2 = some (r1, r2)) ∧ Aside0 (kq ≤ kj1) ∧ Aside0 (Kd.R (Kd.int .i64) 3 w' w.heap.size (fun _ => True) v4 x4_2) ∧ Aside0 (Below w.heap.size w w'))
       case atStart => exact ⟨(([] : List Int)), (0), (by first | rfl | (simp; done) | (simp [*]; done)), H', ⟨Nat.le_refl _⟩, ⟨by first | exact Kd.R_nil _ _ _ _ _ | exact Kd.N_nil _ _ _ _ _ | exact Kd.V_nil _ _ _ _ _ | exact Kd.Q_nil _ _ _ _ _ | exact Kd.S_nil _ _ _ _ _⟩, ⟨by repeat (first | (with_reducible first | exact HB.out | apply below_alloc | apply pw_below_drewN | apply below_drew1) | exact HB.out)⟩⟩
       case round =>
         clear H'
         try clear p2
         try clear c3
         try clear c3b0
         try clear c4
         try clear p2
         obtain ⟨x4_2, x5_2, rfl, HA, HK2, HO_4, HB⟩ := hrel
         cases gk with
         | zero => exact absurd HA.out (by simp [tangramref05_New.l0])
         | succ k2 =>
           have H := HA.out
           clear HA
           simp only [tangramref05_New.l0] at H
           by_cases c5 : x5_2 < a0
           · rw [if_pos c5] at H
             have c5b0 : decide (x5_2 < a0) = true := decide_eq_true c5
             clear c5
             by_cases c6 : x4_2.length < 17592186044416
             · rw [if_pos c6] at H
               have LMc6 := Aside0.mk c6
               clear c6
               obtain ⟨y179, hy179⟩ : ∃ y_ : List Int, y_ = (x4_2 ++ [x5_2]) := ⟨_, rfl⟩
               replace H : (tangramref05_New.l0 k2 a0 y179 (wrap64 (x5_2 + 1))) = some (r1, r2) := by first | (rw [hy179]; with_reducible exact H) | (have H2_ := (Option.bind_some _ _).symm.trans H; rw [hy179]; with_reducible exact H2_) | (have H2_ := (Option.bind_some _ _).symm.trans H; with_reducible exact H2_) | with_reducible exact H | (rw [hy179]; exact H) | exact H
               have Ny179 := Aside0.mk hy179
               clear hy179
               have H' := Aside0.mk H
               clear H
               go_wp2_with (first | ((with_reducible refine gate_builtin (b := .append) (xs := #[.tmp 17, .tmp 19]) rfl ?_); at_builtin; refine Kd.R_append (Kd.int .i64) (w0 := w) w.heap.size rfl (.tmp 17) (.tmp 19) 36 3 (.int .i64 0) 8 rfl Try.underlying36 info3 rfl (by decide) (by omega) u4 x4_2 x5_2 [.int .i64 x5_2] (fun _ => True) (fun _ => False) rfl rfl ?aP (fun _ hk => hk.elim) ?aF ?aO ?aB ?aS ?aL ?_; (case aP => exact rfl); (case aB => exact (by repeat (first | (with_reducible first | exact HB.out | apply below_alloc | apply pw_below_drewN | apply below_drew1) | exact HB.out))); (case aF => exact (fun _ _ => trivial)); (case aO => exact (by (with_reducible repeat (first | apply Kd.R_alloc | apply Kd.R_drewN | apply Kd.R_drew)); exact HO_4.out)); (case aS => exact (below_size (by repeat (first | (with_reducible first | exact HB.out | apply below_alloc | apply pw_below_drewN | apply below_drew1) | exact HB.out)))); (case aL => have := LMc6.out; omega); intro v180 w7 ho hb hg hat; rw [← Ny179.out] at ho; have n0_ := Aside0.mk (hb); have n1_ := Aside0.mk (ho); clear HB; clear HO_4; have HB := n0_; have HO181 := n1_; clear n0_ n1_; clear ho hb hg hat))
               go_roundg k2
               case measure => have := HJ1.out; have := HK2.out; omega
               case rel => exact ⟨(y179), (wrap64 (x5_2 + 1)), (by first | rfl | (simp; done) | (simp [*]; done)), H', ⟨by have := HJ1.out; have := HK2.out; omega⟩, ⟨by (with_reducible repeat (first | apply Kd.R_alloc | apply Kd.R_drewN | apply Kd.R_drew)); exact HO181.out⟩, ⟨by repeat (first | (with_reducible first | exact HB.out | apply below_alloc | apply pw_below_drewN | apply below_drew1) | exact HB.out)⟩⟩
             · rw [if_neg c6] at H
               exact absurd H (by simp)
           · rw [if_neg c5] at H
             have c5b0 : decide (x5_2 < a0) = false := decide_eq_false c5
             clear c5
             simp only [Option.some.injEq, Prod.mk.injEq] at H
             obtain ⟨rfl, rfl⟩ := H
             go_wp2
             go_ret2
             exact ⟨_, by first | rfl | (simp [errW_none, errW_some] <;> rfl) | (simp [*, errW_none, errW_some] <;> rfl), by (with_reducible repeat (first | apply Kd.R_alloc | apply Kd.R_drewN | apply Kd.R_drew)); exact HO_4.out, by repeat (first | (with_reducible first | exact HB.out | apply below_alloc | apply pw_below_drewN | apply below_drew1) | exact HB.out)⟩
end Go.Proofs.Ytmikcfddipldnaa.GAll
namespace Go.Proofs.Ytmikcfddipldnaa.GAll
open Go.RowKit Go.Proofs.YtmikcfddipldnaaW.PrintWords Go.Proofs.YtmikcfddipldnaaW.PrintLast Go.Proofs.YtmikcfddipldnaaW.PrintMore
attribute [local go_sem] max2_int min2_int max_two min_two max_three min_three max_four min_four   -- for this text's walks alone
set_option linter.unusedVariables false
set_option linter.unusedSimpArgs false
theorem tangramref05_Of.pairs {w : World} {A : Option Addr} {l : List S56} (h : Kd.C k56 w A l.length l) : Sets.Pairs w A (l.map fun x => (x.f0, x.f1)) := by
 intro i hi
 rw [List.length_map] at hi
 obtain ⟨ad, e, h1, h2⟩ := at_T56 h (i : Int) (by omega) (by omega)
 have e2 : Sets.pe (l.map fun x => (x.f0, x.f1)) i = ((rd_T56 l (i : Int)).f0, (rd_T56 l (i : Int)).f1) := by
   unfold Sets.pe rd_T56
   simp [List.getD_eq_getElem?_getD, hi]
 rw [e2]
 exact ⟨ad, e, h1, h2⟩
theorem tangramref05_Of.newLoop (n : Nat) (hn : n ≤ 1048576) (d : Nat) : ∀ (k i : Nat), i + d = n → d < k → tangramref05_New.l0 k (n : Int) ((List.range i).map fun (x : Nat) => (x : Int)) (i : Int) = some ((List.range n).map (fun (x : Nat) => (x : Int)), 0) := by
 induction d with
 | zero =>
   intro k i hi hk
   obtain ⟨k, rfl⟩ : ∃ m, k = m + 1 := ⟨k - 1, by omega⟩
   obtain rfl : i = n := by omega
   simp only [tangramref05_New.l0]; rw [if_neg (by omega)]
 | succ d ih =>
   intro k i hi hk
   obtain ⟨k, rfl⟩ : ∃ m, k = m + 1 := ⟨k - 1, by omega⟩
   simp only [tangramref05_New.l0]
   rw [if_pos (by omega), if_pos (by rw [List.length_map, List.length_range]; omega)]
   have e1 : wrap64 ((i : Int) + 1) = ((i + 1 : Nat) : Int) := by unfold wrap64; omega
   have e2 : ((List.range i).map fun (x : Nat) => (x : Int)) ++ [(i : Int)] = (List.range (i + 1)).map fun (x : Nat) => (x : Int) := by rw [List.range_succ, List.map_append]; rfl
   rw [e1, e2]
   exact ih k (i + 1) (by omega) (by omega)
theorem tangramref05_Of.new (n : Nat) (hn : n ≤ 1048576) : tangramref05_New.f (n + 2) (n : Int) = some ((List.range n).map (fun (x : Nat) => (x : Int)), 0) := by
 unfold tangramref05_New.f
 rw [if_neg (by omega)]
 have hd : decide ((n : Int) > 1048576) = false := decide_eq_false (by omega)
 rw [hd]
 simp only [tangramref05_New.j0]
 rw [if_neg (by decide)]
 exact tangramref05_Of.newLoop n hn n (n + 1) 0 (by omega) (by omega)
theorem tangramref05_Of.refNew (n : Nat) (hn : n ≤ 1048576) : Sets.RefNew n := fun w' => (tangramref05_New.calls (n + 2) (n : Int) _ 0 w' (tangramref05_Of.new n hn)).mono fun _ _ h => h
def tangramref05_Of.fit (n : Int) (l : List S56) : Bool := decide (0 ≤ n) && decide (n ≤ 1048576) && decide (l.length ≤ 4194304) && l.all fun x => decide (0 ≤ x.f0) && decide (x.f0 < n) && decide (0 ≤ x.f1) && decide (x.f1 < n)
def tangramref05_Of.out (n : Int) (l : List S56) : List Nat × Nat := Sets.numTo (Sets.joinAll (List.range n.toNat) (l.map fun x => (x.f0, x.f1))) n.toNat
def tangramref05_Of.f (k : Nat) (a0_0 : Int) (l0_1 : List S56) : Option (List Int × Int × Int) := (tangramref03_Valid.f k a0_0 l0_1).bind fun t => if t = true then (if tangramref05_Of.fit a0_0 l0_1 = true then some ((tangramref05_Of.out a0_0 l0_1).1.map (fun (x : Nat) => (x : Int)), (((tangramref05_Of.out a0_0 l0_1).2 : Nat) : Int), 0) else none) else some ([], 0, 1)
theorem tangramref05_Of.mono : ∀ a0 a1 k, LeO (tangramref05_Of.f k a0 a1) (tangramref05_Of.f (k + 1) a0 a1) := by
 intro a0 a1 k
 unfold tangramref05_Of.f
 exact LeO.bind (tangramref03_Valid.mono _ _ _) (fun _ => LeO.refl _)
set_option maxHeartbeats 1000000 in
set_option maxRecDepth 100000 in
theorem tangramref05_Of.calls (k : Nat) (a0_0 : Int) (A0_1 : Option Addr) (c0_1 : Nat) (l0_1 : List (S56)) (r1 : List Int) (r2 : Int) (r3 : Int) (w : World) (hr0_1 : Kd.C k56 w A0_1 l0_1.length l0_1) (hc0_1 : l0_1.length ≤ c0_1) (h : tangramref05_Of.f k a0_0 l0_1 = some (r1, r2, r3)) :
   Calls Try.prog 32 #[.agg #[.int .i64 a0_0, .slice A0_1 l0_1.length c0_1]] w fun e w' => ∃ v0_ : Value, e = .returned (.tuple #[v0_, .int .i64 r2, .int .i64 r3]) ∧ Kd.R (Kd.int .i64) 3 w' w.heap.size (fun _ => True) v0_ r1 ∧ Below w.heap.size w w' := by
 obtain ⟨t, ht, h⟩ := Option.bind_eq_some_iff.mp h
 cases t with
 | false =>
   rw [if_neg (by decide)] at h
   obtain ⟨rfl, rfl, rfl⟩ : [] = r1 ∧ 0 = r2 ∧ 1 = r3 := by simpa using h
   have hv : Sets.RefNo a0_0 A0_1 l0_1.length c0_1 w := fun W hW => tangramref03_Valid.calls k a0_0 A0_1 c0_1 l0_1 false W (Kd.C_below hr0_1 hW) hc0_1 ht
   exact (Sets.refOf_no a0_0 A0_1 l0_1.length c0_1 w hv).mono fun e w' ⟨h1, h2⟩ => ⟨_, h1, Kd.R_nil _ _ _ _ _, h2⟩
 | true =>
   rw [if_pos rfl] at h
   by_cases hf : tangramref05_Of.fit a0_0 l0_1 = true
   · rw [if_pos hf] at h
     simp only [tangramref05_Of.fit, Bool.and_eq_true, decide_eq_true_eq, List.all_eq_true] at hf
     obtain ⟨⟨⟨hn1, hn2⟩, hl⟩, hin⟩ := hf
     obtain ⟨n, rfl⟩ := Int.eq_ofNat_of_zero_le hn1
     have hn3 : n ≤ 1048576 := Int.ofNat_le.1 hn2
     have ho : tangramref05_Of.out (n : Int) l0_1 = Sets.numTo (Sets.joinAll (List.range n) (l0_1.map fun x => (x.f0, x.f1))) n := by unfold tangramref05_Of.out; rw [Int.toNat_natCast]
     rw [ho] at h
     simp only [Option.some.injEq, Prod.mk.injEq] at h
     obtain ⟨rfl, rfl, rfl⟩ := h
     by_cases hpos : 0 < n
     · have hv : Sets.RefYes (n : Int) A0_1 (l0_1.map fun x => (x.f0, x.f1)).length c0_1 w := fun W hW => by
         rw [List.length_map]; exact tangramref03_Valid.calls k _ A0_1 c0_1 l0_1 true W (Kd.C_below hr0_1 hW) hc0_1 ht
       have hin2 : ∀ i, i < (l0_1.map fun x => (x.f0, x.f1)).length → 0 ≤ (Sets.pe (l0_1.map fun x => (x.f0, x.f1)) i).1 ∧ (Sets.pe (l0_1.map fun x => (x.f0, x.f1)) i).1 < n ∧ 0 ≤ (Sets.pe (l0_1.map fun x => (x.f0, x.f1)) i).2 ∧ (Sets.pe (l0_1.map fun x => (x.f0, x.f1)) i).2 < n := by
         intro i hi
         rw [List.length_map] at hi
         have e2 : Sets.pe (l0_1.map fun x => (x.f0, x.f1)) i = ((l0_1[i]'hi).f0, (l0_1[i]'hi).f1) := by unfold Sets.pe; simp [List.getD_eq_getElem?_getD, hi]
         rw [e2]
         have := hin _ (List.getElem_mem hi)
         exact ⟨this.1.1.1, this.1.1.2, this.1.2, this.2⟩
       have hc := Sets.refOf_pos n A0_1 c0_1 (l0_1.map fun x => (x.f0, x.f1)) w
       have hc := hc hv (tangramref05_Of.refNew n hn3) hn3 hpos (tangramref05_Of.pairs hr0_1) (by rw [List.length_map]; exact hl) hin2
       rw [List.length_map] at hc
       refine hc.mono fun e w' ⟨bo, h1, h2, h3, h4⟩ => ?_
       have hn4 := Sets.numTo_length (Sets.joinAll (List.range n) (l0_1.map fun x => (x.f0, x.f1))) n
       have hr := Sets.row_own (ok := fun _ => True) h3 h2 (by rw [hn4]; exact Nat.le_trans hn3 (by decide)) trivial
       rw [hn4] at hr
       exact ⟨_, h1, hr, h4⟩
     · obtain rfl : n = 0 := by omega
       obtain rfl : l0_1 = [] := by
         cases l0_1 with
         | nil => rfl
         | cons x l => have := hin x (List.mem_cons_self ..); have h5 := this.1.1.1; have h6 := this.1.1.2; exact absurd (Int.lt_of_le_of_lt h5 h6) (by decide)
       have hv : Sets.RefYes 0 A0_1 0 c0_1 w := fun W hW => tangramref03_Valid.calls k 0 A0_1 c0_1 [] true W (Kd.C_below hr0_1 hW) hc0_1 ht
       refine (Sets.refOf_zero A0_1 c0_1 w hv (tangramref05_Of.refNew 0 (by decide))).mono fun e w' ⟨bo, h1, h2, h3, h4⟩ => ?_
       exact ⟨_, h1, Sets.row_own (ok := fun _ => True) h3 h2 (by decide) trivial, h4⟩
   · rw [if_neg hf] at h; cases h
end Go.Proofs.Ytmikcfddipldnaa.GAll
namespace Go.Proofs.Ytmikcfddipldnaa.Rot
open Go.RowKit Go.Proofs.YtmikcfddipldnaaW.PrintWords Go.Proofs.YtmikcfddipldnaaW.PrintLast Go.Proofs.YtmikcfddipldnaaW.PrintMore Go.Proofs.Ytmikcfddipldnaa.GAll Go.Proofs.Ytmikcfddipldnaa.Mem
set_option linter.unusedVariables false
set_option linter.unusedSimpArgs false
def Small (r : List (List Int)) : Prop := r.length * 24 ≤ 140737488351232 ∧ ∀ l ∈ r, l.length * 8 ≤ 140737488351232
theorem Small.all {r : List (List Int)} (h : Small r) : (r.all fun row => decide (row.length * 8 ≤ 140737488351232)) = true := by
 rw [List.all_eq_true]
 exact fun x hx => decide_eq_true (h.2 x hx)
theorem good_not {n : Int} {l : List Ed} (h : ¬ PureV.Good n l) : ValH.goodB n (ends l) ≠ true := fun q => h ((PureV.good_iff n l).1 q)
theorem rows_one (fr ds : List Int) : ∀ (r : List (List Int)) (v : Nat) (S : List Bool), (rows fr ds v r S).2 ≠ 1
 | [], v, S => by show (0 : Int) ≠ 1; decide
 | row :: r, v, S => by
   rw [rows_cons]
   cases h : elems fr v row S with
   | error e =>
     have := elems_err fr v row S e h
     show e ≠ 1
     omega
   | ok S' =>
     rw [after_ok]
     split
     · exact rows_one fr ds r (v + 1) S'
     · show (113 : Int) ≠ 1; decide
theorem both_check (n : Int) (l : List Ed) (r : List (List Int)) (hs : Small r) : ∃ res, Ev (fun k => rot_Check.f k n l r) res ∧ Ev (fun k => tangramref11_Check.f k n l r) res ∧ (res.2 = 0 → res = (0, 0)) ∧ (res.2 = 0 ↔ ∃ N : Nat, n = N ∧ PureV.Good n l ∧ IsRot (frs l) N r) ∧ (res.2 = 1 ↔ ¬ PureV.Good n l) := by
 have hr : ∀ {res : Int × Int}, Graph.checkR n (ends l) r = res → Ev (fun k => tangramref11_Check.f k n l r) res := by
   rintro res rfl
   refine Ev.congr (fun k => ?_) (Ev.now _)
   unfold tangramref11_Check.f
   rw [if_pos hs.all]
   rfl
 obtain ⟨b, hb, _, hg⟩ := PureV.valid n l
 cases b with
 | false =>
   have hG : ¬ PureV.Good n l := fun q => absurd (hg.2 q) (by decide)
   refine ⟨_, check_no hb, hr ?_, fun h => by simp at h, ⟨fun h => by simp at h, ?_⟩, ⟨fun _ => hG, fun _ => rfl⟩⟩
   · unfold Graph.checkR
     rw [if_neg (good_not hG)]
   · rintro ⟨N, rfl, h, _⟩
     exact absurd h hG
 | true =>
   have hG := hg.1 rfl
   have hB : ValH.goodB n (ends l) = true := (PureV.good_iff n l).2 hG
   by_cases hl : (r.length : Int) = n
   · obtain ⟨N, rfl⟩ := Int.eq_ofNat_of_zero_le hG.1
     have hl2 : r.length = N := by omega
     obtain ⟨ds, hd, h1, h2⟩ := degrees_ev hG hb
     have hz := rows_zero (frs l) ds r 0 (List.replicate (frs l).length false)
     have hc := check_all hG hb hl2 hd h1
     refine ⟨_, hc, hr ?_, fun h => hz.resolve_right (fun q => q h), ⟨fun h => ?_, ?_⟩, ⟨fun h => ?_, fun h => absurd hG h⟩⟩
     · unfold Graph.checkR
       rw [if_pos hB, if_pos hl, degs_of h1 h2, Int.toNat_natCast, frs_length, ends_length]
       rfl
     · exact ⟨N, rfl, hG, (isRot_of hl2 h2).1 (hz.resolve_right (fun q => q h))⟩
     · rintro ⟨M, e, _, h⟩
       obtain rfl : N = M := by omega
       rw [(isRot_of hl2 h2).2 h]
     · exact absurd h (rows_one (frs l) ds r 0 (List.replicate (frs l).length false))
   · refine ⟨_, check_len hb hl, hr ?_, fun h => by simp at h, ⟨fun h => by simp at h, ?_⟩, ⟨fun h => by simp at h, fun h => absurd hG h⟩⟩
     · unfold Graph.checkR
       rw [if_pos hB, if_neg hl]
     · rintro ⟨N, rfl, _, h⟩
       exact absurd h.len (by omega)
structure IsMap (n : Nat) (l : List Ed) (r : List (List Int)) : Prop where
 good : PureV.Good (n : Int) l
 rot : IsRot (frs l) n r
section
variable {n : Nat} {l : List Ed} {r : List (List Int)}
theorem IsMap.len (h : IsMap n l r) : (nxOf l r).length = 2 * l.length := Graph.setRows_length r _ _
theorem IsMap.rows (h : IsMap n l r) : l.length ≤ 4194304 ∧ r.length ≤ 1048576 ∧ ∀ row ∈ r, row.length ≤ 8388608 ∧ ∀ x ∈ row, 0 ≤ x ∧ x < ((2 * l.length : Nat) : Int) := by
 have h1 := h.good.2.1
 have h2 := h.good.2.2.1
 have h3 := h.rot.len
 refine ⟨h2, by omega, fun row hrow => ?_⟩
 obtain ⟨v, hv, rfl⟩ := List.getElem_of_mem hrow
 have e : r[v] = gl r v := by unfold gl; rw [List.getD_eq_getElem?_getD, List.getElem?_eq_getElem hv]; rfl
 rw [e]
 refine ⟨?_, fun x hx => ?_⟩
 · rw [row_len h.rot (by omega)]
   have := cnt_le (frs l) (frs l).length v
   have := frs_length l
   omega
 · have := leaves_iff.1 ((h.rot.mem v (by omega) x).1 hx)
   rw [frs_length] at this
   exact ⟨this.1, this.2.1⟩
theorem next_ev (h : IsMap n l r) (hc : Ev (fun k => rot_Check.f k (n : Int) l r) (0, 0)) : Ev (fun k => rot_Next.f k (n : Int) l r) (nxOf l r, 0) := by
 unfold rot_Next.f
 refine Ev.bind hc (Ev.congr (fun k => if_pos rfl) (Ev.congr (fun k => if_pos ?_) (Ev.now _)))
 obtain ⟨a, b, c⟩ := h.rows
 unfold rot_Next.fit
 rw [Bool.and_eq_true, Bool.and_eq_true, List.all_eq_true, decide_eq_true_eq, decide_eq_true_eq]
 refine ⟨a, b, fun row hrow => ?_⟩
 rw [Bool.and_eq_true, List.all_eq_true, decide_eq_true_eq]
 exact ⟨(c row hrow).1, fun x hx => decide_eq_true ((c row hrow).2 x hx)⟩
theorem refnext_ev (h : IsMap n l r) (hc : Ev (fun k => tangramref11_Check.f k (n : Int) l r) (0, 0)) : Ev (fun k => tangramref11_Next.f k (n : Int) l r) (nxOf l r, 0) := by
 unfold tangramref11_Next.f
 refine Ev.bind hc (Ev.congr (fun k => if_pos rfl) (Ev.congr (fun k => if_pos ?_) (Ev.now _)))
 obtain ⟨a, b, c⟩ := h.rows
 unfold tangramref11_Next.fit
 rw [Bool.and_eq_true, Bool.and_eq_true, List.all_eq_true, decide_eq_true_eq, decide_eq_true_eq]
 refine ⟨a, b, fun row hrow => ?_⟩
 rw [Bool.and_eq_true, List.all_eq_true, decide_eq_true_eq]
 exact ⟨(c row hrow).1, fun x hx => decide_eq_true ((c row hrow).2 x hx)⟩
def parts (n : Nat) (l : List Ed) : Nat := (comps_Of.out (n : Int) l).2
theorem of_ev (hg : PureV.Good (n : Int) l) : ∃ o, Ev (fun k => comps_Of.f k (n : Int) l) (o, (parts n l : Int), 0) ∧ Ev (fun k => tangramref05_Of.f k (n : Int) l) (o, (parts n l : Int), 0) := by
 obtain ⟨b, h1, h2, h3⟩ := PureV.valid (n : Int) l
 rw [h3.2 hg] at h1 h2
 refine ⟨(comps_Of.out (n : Int) l).1.map (fun (x : Nat) => (x : Int)), ?_, ?_⟩
 · unfold comps_Of.f
   exact Ev.bind h1 (Ev.congr (fun k => if_pos rfl) (Ev.congr (fun k => if_pos ⟨hg.1, hg.2.1⟩) (Ev.now _)))
 · unfold tangramref05_Of.f
   refine Ev.bind h2 (Ev.congr (fun k => if_pos rfl) (Ev.congr (fun k => if_pos ?_) (Ev.now _)))
   obtain ⟨g1, g2, g3, g4⟩ := hg
   unfold tangramref05_Of.fit
   simp only [Bool.and_eq_true, decide_eq_true_eq, List.all_eq_true]
   refine ⟨⟨⟨g1, g2⟩, g3⟩, fun x hx => ?_⟩
   obtain ⟨i, hi, rfl⟩ := List.getElem_of_mem hx
   obtain ⟨⟨e1, e2, e3⟩, _⟩ := g4 i hi
   have e : PureV.rdE l (i : Nat) = l[i] := by
     show l.getD ((i : Int).toNat) _ = _
     rw [Int.toNat_natCast, List.getD_eq_getElem?_getD, List.getElem?_eq_getElem hi]
     rfl
   rw [e] at e1 e2 e3
   exact ⟨⟨⟨by omega, by omega⟩, by omega⟩, by omega⟩
end
end Go.Proofs.Ytmikcfddipldnaa.Rot
namespace Go.Proofs.Ytmikcfddipldnaa.Rot
open Go.RowKit Go.Proofs.YtmikcfddipldnaaW.PrintWords Go.Proofs.YtmikcfddipldnaaW.PrintLast Go.Proofs.YtmikcfddipldnaaW.PrintMore Go.Proofs.Ytmikcfddipldnaa.GAll Go.Proofs.Ytmikcfddipldnaa.Mem Go.Proofs.Ytmikcfddipldnaa.Ring Go.Proofs.Ytmikcfddipldnaa.Face
set_option linter.unusedVariables false
set_option linter.unusedSimpArgs false
theorem ring_of_mod {f : Nat → Nat} {l : List Nat} (hl : l ≠ []) (h : ∀ j, j < l.length → f (l.getD j 0) = l.getD ((j + 1) % l.length) 0) : Ring f l := by
 cases l with
 | nil => exact absurd rfl hl
 | cons a t =>
   rw [ring_cons]
   unfold Lead
   apply List.ext_getElem
   · simp
   · intro i h1 h2
     have hi : i < (a :: t).length := by simpa using h1
     have hh := h i hi
     rw [List.getD_eq_getElem?_getD, List.getD_eq_getElem?_getD, List.getElem?_eq_getElem hi, Option.getD_some] at hh
     rw [List.getElem_map, hh]
     show _ = (t ++ [a])[i]'(by simpa using hi)
     by_cases c : i + 1 < (a :: t).length
     · rw [Nat.mod_eq_of_lt c, List.getElem?_eq_getElem c, List.getElem_append_left (by simp at c; omega)]
       rfl
     · have e : (i + 1) % (a :: t).length = 0 := by
         have : i + 1 = (a :: t).length := by omega
         rw [this, Nat.mod_self]
       rw [e, List.getElem_append_right (by simp at c hi ⊢; omega)]
       simp
def fN (l : List Int) : List Nat := l.map Int.toNat
theorem fN_getD (l : List Int) (j : Nat) : (fN l).getD j 0 = (gi l j).toNat := by
 unfold fN gi
 rw [List.getD_eq_getElem?_getD, List.getD_eq_getElem?_getD, List.getElem?_map]
 cases l[j]? <;> rfl
def rowsN (r : List (List Int)) : List (List Nat) := r.map fN
def nxf (l : List Ed) (r : List (List Int)) (h : Nat) : Nat := (gi (nxOf l r) h).toNat
theorem rowsN_get {r : List (List Int)} {i : Nat} (h : i < r.length) {h2 : i < (rowsN r).length} : (rowsN r)[i] = fN (gl r i) := by
 have e : gl r i = r[i] := by unfold gl; rw [List.getD_eq_getElem?_getD, List.getElem?_eq_getElem h]; rfl
 rw [e]
 exact List.getElem_map ..
def full (L : List (List Nat)) : List (List Nat) := L.filter fun l => !l.isEmpty
theorem full_flatten (L : List (List Nat)) : (full L).flatten = L.flatten := by
 induction L with
 | nil => rfl
 | cons a L ih =>
   unfold full at ih ⊢
   cases a with
   | nil => simpa using ih
   | cons x t => simp [ih]
section
variable {n : Nat} {l : List Ed} {r : List (List Int)}
theorem gl_ge {r : List (List Int)} {row : List Int} (h : row ∈ r) : ∃ v, v < r.length ∧ gl r v = row := by
 obtain ⟨v, hv, rfl⟩ := List.getElem_of_mem h
 exact ⟨v, hv, by unfold gl; rw [List.getD_eq_getElem?_getD, List.getElem?_eq_getElem hv]; rfl⟩
theorem gi_get0 {l : List Int} {i : Nat} (h : i < l.length) : gi l i = l[i] := by unfold gi; rw [List.getD_eq_getElem?_getD, List.getElem?_eq_getElem h]; rfl
theorem IsMap.row_at (hm : IsMap n l r) {v : Nat} (hv : v < n) {h : Nat} : h ∈ fN (gl r v) ↔ h < 2 * l.length ∧ gi (frs l) h = (v : Int) := by
 unfold fN
 rw [List.mem_map]
 have hfl := frs_length l
 constructor
 · rintro ⟨x, hx, rfl⟩
   obtain ⟨a, b, c⟩ := leaves_iff.1 ((hm.rot.mem v hv x).1 hx)
   exact ⟨by omega, c⟩
 · rintro ⟨a, b⟩
   exact ⟨(h : Int), (hm.rot.mem v hv _).2 (leaves_iff.2 ⟨by omega, by omega, by rw [Int.toNat_natCast]; exact b⟩), by simp⟩
theorem IsMap.row_nodup (hm : IsMap n l r) {v : Nat} (hv : v < n) : (fN (gl r v)).Nodup := by
 have h1 := hm.rot.nodup v hv
 unfold fN
 rw [List.Nodup, List.pairwise_map]
 refine List.Pairwise.imp_of_mem (fun {a b} ha hb hne e => hne ?_) h1
 have := (leaves_iff.1 ((hm.rot.mem v hv a).1 ha)).1
 have := (leaves_iff.1 ((hm.rot.mem v hv b).1 hb)).1
 omega
theorem IsMap.row_ring (hm : IsMap n l r) {v : Nat} (hv : v < n) (h0 : gl r v ≠ []) : Ring (nxf l r) (fN (gl r v)) := by
 have hx := (nxOf_next hm.rot).2
 refine ring_of_mod (by unfold fN; simpa using h0) (fun j hj => ?_)
 have hl : (fN (gl r v)).length = (gl r v).length := by unfold fN; simp
 have := hx v (by rw [hm.rot.len]; exact hv) j (by omega)
 rw [hl, fN_getD, fN_getD]
 unfold nxf
 rw [this]
theorem IsMap.rows_flat (hm : IsMap n l r) : (rowsN r).flatten.Nodup ∧ ∀ h, h ∈ (rowsN r).flatten ↔ h < 2 * l.length := by
 have hlen := hm.rot.len
 constructor
 · rw [List.Nodup, List.pairwise_flatten]
   constructor
   · intro L hL
     obtain ⟨row, hrow, rfl⟩ := List.mem_map.1 hL
     obtain ⟨v, hv, rfl⟩ := gl_ge hrow
     exact hm.row_nodup (by omega)
   · rw [List.pairwise_iff_getElem]
     intro i j hi hj hij x hx y hy e
     subst e
     have hi2 : i < r.length := by simpa [rowsN] using hi
     have hj2 : j < r.length := by simpa [rowsN] using hj
     have e1 : (rowsN r)[i] = fN (gl r i) := rowsN_get hi2
     have e2 : (rowsN r)[j] = fN (gl r j) := rowsN_get hj2
     rw [e1] at hx
     rw [e2] at hy
     have h1 := (hm.row_at (by omega)).1 hx
     have h2 := (hm.row_at (by omega)).1 hy
     have : ((i : Int)) = (j : Int) := h1.2.symm.trans h2.2
     omega
 · intro h
   rw [List.mem_flatten]
   constructor
   · rintro ⟨L, hL, hh⟩
     obtain ⟨row, hrow, rfl⟩ := List.mem_map.1 hL
     obtain ⟨v, hv, rfl⟩ := gl_ge hrow
     exact ((hm.row_at (by omega)).1 hh).1
   · intro hh
     have hf := frs_range hm.good hh
     obtain ⟨v, hv⟩ := Int.eq_ofNat_of_zero_le hf.1
     have hvn : v < n := by omega
     refine ⟨fN (gl r v), List.mem_map.2 ⟨gl r v, ?_, rfl⟩, (hm.row_at hvn).2 ⟨hh, hv⟩⟩
     unfold gl
     rw [List.getD_eq_getElem?_getD, List.getElem?_eq_getElem (by omega)]
     exact List.getElem_mem _
theorem IsMap.dec (hm : IsMap n l r) : Dec (nxf l r) (full (rowsN r)) ∧ (full (rowsN r)).flatten.Perm (List.range (2 * l.length)) := by
 obtain ⟨h1, h2⟩ := hm.rows_flat
 refine ⟨⟨fun L hL => ?_, by rw [full_flatten]; exact h1⟩, ?_⟩
 · unfold full at hL
   rw [List.mem_filter] at hL
   obtain ⟨row, hrow, rfl⟩ := List.mem_map.1 hL.1
   obtain ⟨v, hv, rfl⟩ := gl_ge hrow
   refine hm.row_ring (by have := hm.rot.len; omega) (fun e => ?_)
   rw [e] at hL
   simp [fN] at hL
 · rw [full_flatten]
   exact perm_of_same h1 List.nodup_range (fun x => by rw [h2, List.mem_range])
theorem IsMap.nxf_eq (hm : IsMap n l r) {h : Nat} (hh : h < 2 * l.length) : gi (nxOf l r) h = (nxf l r h : Int) := by
 have := next_in hm.rot (nxOf_next hm.rot) (frs_in hm.good) (x := h) (by rw [frs_length]; exact hh)
 unfold nxf
 omega
theorem twn_lt {h m : Nat} (hh : h < 2 * m) : twn h < 2 * m := by unfold twn; split <;> omega
theorem tw_twn {h : Nat} (hh : h ≤ 9000000) : Go.bits .xor .i64 (h : Int) 1 = (twn h : Int) := Seen.tw_nat hh
def stf (l : List Ed) (r : List (List Int)) : Nat → Nat := upTo (nxf l r) l.length
theorem stf_eq {h : Nat} (hh : h < 2 * l.length) : stf l r h = nxf l r (twn h) := if_pos hh
def stOf (l : List Ed) (r : List (List Int)) : List Int := (List.range (2 * l.length)).map fun h => gi (nxOf l r) (twn h)
theorem stOf_length : (stOf l r).length = 2 * l.length := by unfold stOf; simp
theorem gi_stOf {h : Nat} (hh : h < 2 * l.length) : gi (stOf l r) h = gi (nxOf l r) (twn h) := by
 unfold stOf gi
 simp [List.getD_eq_getElem?_getD, hh]
theorem IsMap.even (hm : IsMap n l r) : ∀ e, 2 * e ∈ (full (rowsN r)).flatten ↔ 2 * e + 1 ∈ (full (rowsN r)).flatten := by
 intro e
 rw [full_flatten, hm.rows_flat.2, hm.rows_flat.2]
 omega
theorem IsMap.steps (hm : IsMap n l r) : Face.Steps (stf l r) (stOf l r) := by
 obtain ⟨h1, h2⟩ := hm.dec
 obtain ⟨L', d1, d2, _⟩ := parity h1 hm.even l.length
 have hp := d2.trans h2
 have mem : ∀ i, i < 2 * l.length ↔ i ∈ L'.flatten := fun i => by rw [hp.mem_iff, List.mem_range]
 refine ⟨fun i hi => ?_, fun i hi => ?_, fun i j hi hj e => ?_⟩
 · rw [stOf_length] at hi
   rw [gi_stOf hi, hm.nxf_eq (twn_lt hi), stf_eq hi]
 · rw [stOf_length] at hi ⊢
   exact (mem _).2 (d1.closed ((mem i).1 hi))
 · rw [stOf_length] at hi hj
   exact d1.inj i ((mem i).1 hi) j ((mem j).1 hj) e
theorem IsMap.faces (hm : IsMap n l r) : ∃ F, facesL (stOf l r) = F.map zN ∧ Faces (stf l r) (2 * l.length) F := by
 have := facesL_spec hm.steps
 rw [stOf_length] at this
 exact this
end
end Go.Proofs.Ytmikcfddipldnaa.Rot
namespace Go.Proofs.Ytmikcfddipldnaa.GAll
open Go.RowKit Go.Proofs.YtmikcfddipldnaaW.PrintWords Go.Proofs.YtmikcfddipldnaaW.PrintLast Go.Proofs.YtmikcfddipldnaaW.PrintMore
attribute [local go_sem] max2_int min2_int max_two min_two max_three min_three max_four min_four   -- for this text's walks alone
set_option linter.unusedVariables false
set_option linter.unusedSimpArgs false
def tangramref03_SameInts.l0 : Nat → List Int → List Int → Int → Option (Bool)
 | 0, _, _, _ => none
 | k + 1, x0, x1, x5 => if x5 < (x0.length : Int) then (if 0 ≤ x5 then (if x5 < (x1.length : Int) then (if (rd x0 x5) = (rd x1 x5) then (tangramref03_SameInts.l0 k x0 x1 (wrap64 (x5 + 1))) else (some false)) else (none)) else (none)) else (some true)
def tangramref03_SameInts.f (k : Nat) (l0 : List Int) (l1 : List Int) : Option (Bool) := if (l0.length : Int) = (l1.length : Int) then (tangramref03_SameInts.l0 k l0 l1 0) else (some false)
theorem tangramref03_SameInts.mono_l : ∀ k, (∀ y0 y1 y2, LeO (tangramref03_SameInts.l0 k y0 y1 y2) (tangramref03_SameInts.l0 (k + 1) y0 y1 y2))
 | 0 => fun _ _ _ r h => by simp [tangramref03_SameInts.l0] at h
 | k + 1 => by
   have ih0 := tangramref03_SameInts.mono_l k
   · intro y0 y1 y2
     unfold tangramref03_SameInts.l0
     repeat' first
     | (with_reducible exact ih0 _ _ _)
     | (with_reducible exact LeO.refl _)
     | (with_reducible exact LeO.none _)
     | (with_reducible refine LeO.ite ?_ ?_)
     | (with_reducible refine LeO.bind ?_ (fun _ => ?_))
     | exact ih0 _ _ _
     | exact LeO.none _
     | refine LeO.ite ?_ ?_
     | refine LeO.bind ?_ (fun _ => ?_)
theorem tangramref03_SameInts.mono : ∀ a0 a1 k, LeO (tangramref03_SameInts.f k a0 a1) (tangramref03_SameInts.f (k + 1) a0 a1) := by
 intro a0 a1 k
 have ih0 := tangramref03_SameInts.mono_l k
 unfold tangramref03_SameInts.f
 repeat' first
     | (with_reducible exact ih0 _ _ _)
     | (with_reducible exact LeO.refl _)
     | (with_reducible exact LeO.none _)
     | (with_reducible refine LeO.ite ?_ ?_)
     | (with_reducible refine LeO.bind ?_ (fun _ => ?_))
     | exact ih0 _ _ _
     | exact LeO.none _
     | refine LeO.ite ?_ ?_
     | refine LeO.bind ?_ (fun _ => ?_)
set_option maxHeartbeats 8000000 in
set_option maxRecDepth 100000 in
theorem tangramref03_SameInts.calls (k : Nat) (A0 : Option Addr) (c0 : Nat) (l0 : List Int) (A1 : Option Addr) (c1 : Nat) (l1 : List Int) (r : Bool) (w : World) (hr0 : Kd.C (Kd.int .i64) w A0 l0.length l0) (hc0 : l0.length ≤ c0) (hr1 : Kd.C (Kd.int .i64) w A1 l1.length l1) (hc1 : l1.length ≤ c1) (h : tangramref03_SameInts.f k l0 l1 = some r) :
   Calls Try.prog 17 #[.slice A0 l0.length c0, .slice A1 l1.length c1] w fun e w' => e = .returned (.bool r) ∧ Drawn0 w w' := by
 have HR0 := Aside0.mk hr0
 have HC0 := Aside0.mk hc0
 clear hr0 hc0
 have HR1 := Aside0.mk hr1
 have HC1 := Aside0.mk hc1
 clear hr1 hc1
 have H : (if (l0.length : Int) = (l1.length : Int) then (tangramref03_SameInts.l0 k l0 l1 0) else (some false)) = some r := h
 clear h
 by_cases c3 : (l0.length : Int) = (l1.length : Int)
 · rw [if_pos c3] at H
   have c3b0 : ((l0.length : Int) == (l1.length : Int)) = true := beq_iff_eq.mpr c3
   have c3b1 : ((l0.length : Int) != (l1.length : Int)) = false := bne_eq_false_iff_eq.mpr c3
   have c3b2 : (l0.length == l1.length) = true := by first | simpa using c3 | (simp at c3 ⊢; omega)
   clear c3
   have H' := Aside0.mk H
   clear H
   go_enter Try.func17, Try.ntmps17
   go_wp2
   repeat (go_quiet (fail); try go_wp2)
   go_loopg [5] k (fun kq v5 w' => ∃ (x5_1 : Int), v5 = .int .i64 x5_1 ∧ Aside0 (tangramref03_SameInts.l0 kq l0 l1 x5_1 = some r) ∧ Aside0 (kq ≤ k) ∧ Drawn0 w w')
   case atStart => exact ⟨(0), (by first | rfl | (simp; done) | (simp [*]; done)), H', ⟨Nat.le_refl _⟩, by repeat (first | exact Drawn0.refl _ | apply Drawn0.step)⟩
   case round =>
     clear H'
     try clear c1
     try clear p2
     try clear c3
     try clear c3b0
     try clear c3b1
     try clear c3b2
     obtain ⟨x5_1, rfl, HA, HK1, ⟨m1, rfl⟩⟩ := hrel
     cases gk with
     | zero => exact absurd HA.out (by simp [tangramref03_SameInts.l0])
     | succ k1 =>
       have H := HA.out
       clear HA
       simp only [tangramref03_SameInts.l0] at H
       by_cases c4 : x5_1 < (l0.length : Int)
       · rw [if_pos c4] at H
         have c4b0 : decide (x5_1 < (l0.length : Int)) = true := decide_eq_true c4
         clear c4
         by_cases c5 : 0 ≤ x5_1
         · rw [if_pos c5] at H
           have c5b0 : decide (0 ≤ x5_1) = true := decide_eq_true c5
           clear c5
           by_cases c6 : x5_1 < (l1.length : Int)
           · rw [if_pos c6] at H
             have c6b0 : decide (x5_1 < (l1.length : Int)) = true := decide_eq_true c6
             clear c6
             by_cases c7 : (rd l0 x5_1) = (rd l1 x5_1)
             · rw [if_pos c7] at H
               have c7b0 : ((rd l0 x5_1) == (rd l1 x5_1)) = true := beq_iff_eq.mpr c7
               have c7b1 : ((rd l0 x5_1) != (rd l1 x5_1)) = false := bne_eq_false_iff_eq.mpr c7
               clear c7
               have H' := Aside0.mk H
               clear H
               have p129 : 0 ≤ (x5_1 : Int) := of_decide_eq_true (by first | (with_reducible assumption) | assumption)
               have q129 : x5_1 < (l0.length : Int) := of_decide_eq_true (by first | (with_reducible assumption) | assumption)
               obtain ⟨ad129, e129, hx129_0⟩ := Kd.at_int HR0.out x5_1 p129 q129
               cases e129
               replace p129 := eq_true p129
               replace q129 := eq_true q129
               have p130 : 0 ≤ (x5_1 : Int) := of_decide_eq_true (by first | (with_reducible assumption) | assumption)
               have q130 : x5_1 < (l1.length : Int) := of_decide_eq_true (by first | (with_reducible assumption) | assumption)
               obtain ⟨ad130, e130, hx130_0⟩ := Kd.at_int HR1.out x5_1 p130 q130
               cases e130
               replace p130 := eq_true p130
               replace q130 := eq_true q130
               go_wp2
               repeat (go_quiet (fail); try go_wp2)
               go_roundg k1
               case measure => have := HK1.out; omega
               case rel => exact ⟨(wrap64 (x5_1 + 1)), (by first | rfl | (simp; done) | (simp [*]; done)), H', ⟨by have := HK1.out; omega⟩, by repeat (first | exact Drawn0.refl _ | apply Drawn0.step)⟩
             · rw [if_neg c7] at H
               have c7b0 : ((rd l0 x5_1) == (rd l1 x5_1)) = false := beq_eq_false_iff_ne.mpr c7
               have c7b1 : ((rd l0 x5_1) != (rd l1 x5_1)) = true := bne_iff_ne.mpr c7
               obtain rfl := Option.some.inj H
               have p129 : 0 ≤ (x5_1 : Int) := of_decide_eq_true (by first | (with_reducible assumption) | assumption)
               have q129 : x5_1 < (l0.length : Int) := of_decide_eq_true (by first | (with_reducible assumption) | assumption)
               obtain ⟨ad129, e129, hx129_0⟩ := Kd.at_int HR0.out x5_1 p129 q129
               cases e129
               replace p129 := eq_true p129
               replace q129 := eq_true q129
               have p130 : 0 ≤ (x5_1 : Int) := of_decide_eq_true (by first | (with_reducible assumption) | assumption)
               have q130 : x5_1 < (l1.length : Int) := of_decide_eq_true (by first | (with_reducible assumption) | assumption)
               obtain ⟨ad130, e130, hx130_0⟩ := Kd.at_int HR1.out x5_1 p130 q130
               cases e130
               replace p130 := eq_true p130
               replace q130 := eq_true q130
               go_wp2
               repeat (go_quiet (fail); try go_wp2)
               go_ret
               exact ⟨by first | rfl | (simp; done) | (simp [*]; done), by repeat (first | exact Drawn0.refl _ | apply Drawn0.step)⟩
           · rw [if_neg c6] at H
             exact absurd H (by simp)
         · rw [if_neg c5] at H
           exact absurd H (by simp)
       · rw [if_neg c4] at H
         have c4b0 : decide (x5_1 < (l0.length : Int)) = false := decide_eq_false c4
         clear c4
         obtain rfl := Option.some.inj H
         go_wp2
         repeat (go_quiet (fail); try go_wp2)
         go_ret
         exact ⟨by first | rfl | (simp; done) | (simp [*]; done), by repeat (first | exact Drawn0.refl _ | apply Drawn0.step)⟩
 · rw [if_neg c3] at H
   have c3b0 : ((l0.length : Int) == (l1.length : Int)) = false := beq_eq_false_iff_ne.mpr c3
   have c3b1 : ((l0.length : Int) != (l1.length : Int)) = true := bne_iff_ne.mpr c3
   have c3b2 : (l0.length == l1.length) = false := by first | simpa using c3 | (simp at c3 ⊢; omega)
   obtain rfl := Option.some.inj H
   go_enter Try.func17, Try.ntmps17
   go_wp2
   repeat (go_quiet (fail); try go_wp2)
   go_ret
   exact ⟨by first | rfl | (simp; done) | (simp [*]; done), by repeat (first | exact Drawn0.refl _ | apply Drawn0.step)⟩
end Go.Proofs.Ytmikcfddipldnaa.GAll
namespace Go.Proofs.Ytmikcfddipldnaa.GAll
open Go.RowKit Go.Proofs.YtmikcfddipldnaaW.PrintWords Go.Proofs.YtmikcfddipldnaaW.PrintLast Go.Proofs.YtmikcfddipldnaaW.PrintMore
attribute [local go_sem] max2_int min2_int max_two min_two max_three min_three max_four min_four   -- for this text's walks alone
set_option linter.unusedVariables false
set_option linter.unusedSimpArgs false
def tangramref03_Copy.l0 : Nat → List (S56) → Int → Int → List (S56) → Option (Int × (List (S56)))
 | 0, _, _, _, _ => none
 | k + 1, x3, x4, x154000, x154001 => if x4 < (x154001.length : Int) then (if 0 ≤ x4 then (if x3.length < 8796093022208 then (tangramref03_Copy.l0 k (x3 ++ [(⟨(rd_T56 x154001 x4).f0, (rd_T56 x154001 x4).f1⟩ : S56)]) (wrap64 (x4 + 1)) x154000 x154001) else (none)) else (none)) else (some (x154000, x3))
def tangramref03_Copy.f (k : Nat) (a0_0 : Int) (l0_1 : List (S56)) : Option (Int × (List (S56))) := tangramref03_Copy.l0 k ([] : List (S56)) 0 a0_0 l0_1
theorem tangramref03_Copy.mono_l : ∀ k, (∀ y0 y1 y2 y3, LeO (tangramref03_Copy.l0 k y0 y1 y2 y3) (tangramref03_Copy.l0 (k + 1) y0 y1 y2 y3))
 | 0 => fun _ _ _ _ r h => by simp [tangramref03_Copy.l0] at h
 | k + 1 => by
   have ih0 := tangramref03_Copy.mono_l k
   · intro y0 y1 y2 y3
     unfold tangramref03_Copy.l0
     repeat' first
     | (with_reducible exact ih0 _ _ _ _)
     | (with_reducible exact LeO.refl _)
     | (with_reducible exact LeO.none _)
     | (with_reducible refine LeO.ite ?_ ?_)
     | (with_reducible refine LeO.bind ?_ (fun _ => ?_))
     | exact ih0 _ _ _ _
     | exact LeO.none _
     | refine LeO.ite ?_ ?_
     | refine LeO.bind ?_ (fun _ => ?_)
theorem tangramref03_Copy.mono : ∀ a0 a1 k, LeO (tangramref03_Copy.f k a0 a1) (tangramref03_Copy.f (k + 1) a0 a1) := by
 intro a0 a1 k
 have ih0 := tangramref03_Copy.mono_l k
 unfold tangramref03_Copy.f
 repeat' first
     | (with_reducible exact ih0 _ _ _ _)
     | (with_reducible exact LeO.refl _)
     | (with_reducible exact LeO.none _)
     | (with_reducible refine LeO.ite ?_ ?_)
     | (with_reducible refine LeO.bind ?_ (fun _ => ?_))
     | exact ih0 _ _ _ _
     | exact LeO.none _
     | refine LeO.ite ?_ ?_
     | refine LeO.bind ?_ (fun _ => ?_)
set_option maxHeartbeats 8000000 in
set_option maxRecDepth 100000 in
theorem tangramref03_Copy.calls (k : Nat) (a0_0 : Int) (A0_1 : Option Addr) (c0_1 : Nat) (l0_1 : List (S56)) (r1 : Int) (r2 : List (S56)) (w : World) (hr0_1 : Kd.C k56 w A0_1 l0_1.length l0_1) (hc0_1 : l0_1.length ≤ c0_1) (h : tangramref03_Copy.f k a0_0 l0_1 = some (r1, r2)) :
   Calls Try.prog 11 #[.agg #[.int .i64 a0_0, .slice A0_1 l0_1.length c0_1]] w fun e w' => ∃ v1_ : Value, e = .returned (.agg #[.int .i64 r1, v1_]) ∧ Kd.R k56 56 w' w.heap.size (fun _ => True) v1_ r2 ∧ Below w.heap.size w w' := by
 have hu24 := Try.underlying24
 have hu56 := Try.underlying56
 have HR0_1 := Aside0.mk hr0_1
 have HC0_1 := Aside0.mk hc0_1
 clear hr0_1 hc0_1
 have HB := Aside0.mk (Below.refl w.heap.size w)
 have H : (tangramref03_Copy.l0 k ([] : List (S56)) 0 a0_0 l0_1) = some (r1, r2) := h
 clear h
 have H' := Aside0.mk H
 clear H
 go_enter Try.func11, Try.ntmps11
 go_wp2_with (first | ((with_reducible refine gate_dst (N := 1) rfl ?_); refine box_event ?hg (N := 1) ?hd (cs := #[.int .i64 a0_0, .slice A0_1 l0_1.length c0_1]) (t := 24) ?hr ?_; (case hd => rfl); (case hg => rfl); (case hr => first | (go_simp; done) | (go_simp; rfl)); intro gb153 hg w2 hbox hb; have n0_ := Aside0.mk (below_step (by repeat (first | (with_reducible first | exact HB.out | apply below_alloc | apply pw_below_drewN | apply below_drew1) | exact HB.out)) hb); have n1_ := Aside0.mk (hbox); have n2_ := Aside0.mk ((by rw [hg]; exact (below_size (by repeat (first | (with_reducible first | exact HB.out | apply below_alloc | apply pw_below_drewN | apply below_drew1) | exact HB.out))) : w.heap.size ≤ gb153)); have n3_ := Aside0.mk ((by rw [hg]; exact (below_size (by repeat (first | (with_reducible first | exact HB.out | apply below_alloc | apply pw_below_drewN | apply below_drew1) | exact HB.out))) : w.heap.size ≤ gb153)); clear HB; have HB := n0_; have BK153 := n1_; have GW153 := n2_; have GE153 := n3_; clear n0_ n1_ n2_ n3_; clear hb hbox hg) | ((with_reducible refine gate_dst (N := 2) rfl ?_); refine box_event ?hg (N := 2) ?hd (cs := #[.int .i64 0, .slice none 0 0]) (t := 24) ?hr ?_; (case hd => rfl); (case hg => rfl); (case hr => first | (go_simp; done) | (go_simp; rfl)); intro gb154 hg w3 hbox hb; have n0_ := Aside0.mk (blk_below (g := gb153) (o := .cells #[.int .i64 a0_0, .slice A0_1 l0_1.length c0_1] 24 (0, 0)) (by (with_reducible repeat (first | refine blk_drewN ?_ _ | refine blk_drew ?_ | refine blk_alloc ?_ _)); exact BK153.out) hb); have n1_ := Aside0.mk (below_step (by repeat (first | (with_reducible first | exact HB.out | apply below_alloc | apply pw_below_drewN | apply below_drew1 | refine below_set ?_ GE153.out) | exact HB.out)) hb); have n2_ := Aside0.mk (hbox); have n3_ := Aside0.mk ((by rw [hg]; exact (below_size (by repeat (first | (with_reducible first | exact HB.out | apply below_alloc | apply pw_below_drewN | apply below_drew1 | refine below_set ?_ GE153.out) | exact HB.out))) : w.heap.size ≤ gb154)); have n4_ := Aside0.mk ((by rw [hg]; exact (below_size (by repeat (first | (with_reducible first | exact HB.out | apply below_alloc | apply pw_below_drewN | apply below_drew1 | refine below_set ?_ GE153.out) | exact HB.out))) : w.heap.size ≤ gb154)); have n5_ := Aside0.mk ((by rw [hg]; exact Nat.ne_of_lt (blk_lt (g := gb153) (o := .cells #[.int .i64 a0_0, .slice A0_1 l0_1.length c0_1] 24 (0, 0)) (by (with_reducible repeat (first | refine blk_drewN ?_ _ | refine blk_drew ?_ | refine blk_alloc ?_ _)); exact BK153.out)) : gb153 ≠ gb154)); have n6_ := Aside0.mk ((by rw [hg]; exact Nat.ne_of_gt (blk_lt (g := gb153) (o := .cells #[.int .i64 a0_0, .slice A0_1 l0_1.length c0_1] 24 (0, 0)) (by (with_reducible repeat (first | refine blk_drewN ?_ _ | refine blk_drew ?_ | refine blk_alloc ?_ _)); exact BK153.out)) : gb154 ≠ gb153)); clear BK153; clear HB; have BK153 := n0_; have HB := n1_; have BK154 := n2_; have GW154 := n3_; have GE154 := n4_; have NB153_154 := n5_; have NB154_153 := n6_; clear n0_ n1_ n2_ n3_ n4_ n5_ n6_; clear hb hbox hg))
 go_loopg [3, 4] k (fun kq v3 v4 w' => ∃ (x3_1 : List (S56)) (x4_1 : Int), v4 = .int .i64 x4_1 ∧ Aside0 (tangramref03_Copy.l0 kq x3_1 x4_1 a0_0 l0_1 = some (r1, r2)) ∧ Aside0 (kq ≤ k) ∧ Aside0 (Kd.R k56 56 w' w.heap.size (fun _ => True) v3 x3_1) ∧ Aside0 (w'.heap[gb153]? = some (.cells #[.int .i64 a0_0, (.slice A0_1 l0_1.length c0_1)] 24 (0, 0))) ∧ Aside0 (w'.heap[gb154]? = some (.cells #[.int .i64 0, (.slice none 0 0)] 24 (0, 0))) ∧ Aside0 (Below w.heap.size w w'))
 case atStart => exact ⟨(([] : List (S56))), (0), (by first | rfl | (simp; done) | (simp [*]; done)), H', ⟨Nat.le_refl _⟩, ⟨by first | exact Kd.R_nil _ _ _ _ _ | exact Kd.N_nil _ _ _ _ _ | exact Kd.V_nil _ _ _ _ _ | exact Kd.Q_nil _ _ _ _ _ | exact Kd.S_nil _ _ _ _ _⟩, ⟨by (with_reducible repeat (first | refine blk_drewN ?_ _ | refine blk_drew ?_ | refine blk_alloc ?_ _)); exact BK153.out⟩, ⟨by (with_reducible repeat (first | refine blk_drewN ?_ _ | refine blk_drew ?_ | refine blk_alloc ?_ _)); exact BK154.out⟩, ⟨by repeat (first | (with_reducible first | exact HB.out | apply below_alloc | apply pw_below_drewN | apply below_drew1 | refine below_set ?_ GE153.out | refine below_set ?_ GE154.out) | exact HB.out)⟩⟩
 case round =>
   clear H'
   try clear c1
   try clear p2
   obtain ⟨x3_1, x4_1, rfl, HA, HK1, HO_3, BK153, BK154, HB⟩ := hrel
   cases gk with
   | zero => exact absurd HA.out (by simp [tangramref03_Copy.l0])
   | succ k1 =>
     have H := HA.out
     clear HA
     simp only [tangramref03_Copy.l0] at H
     by_cases c4 : x4_1 < (l0_1.length : Int)
     · rw [if_pos c4] at H
       have c4b0 : decide (x4_1 < (l0_1.length : Int)) = true := decide_eq_true c4
       clear c4
       by_cases c5 : 0 ≤ x4_1
       · rw [if_pos c5] at H
         have c5b0 : decide (0 ≤ x4_1) = true := decide_eq_true c5
         clear c5
         by_cases c6 : x3_1.length < 8796093022208
         · rw [if_pos c6] at H
           have LMc6 := Aside0.mk c6
           clear c6
           obtain ⟨y156, hy156⟩ : ∃ y_ : List (S56), y_ = (x3_1 ++ [(⟨(rd_T56 l0_1 x4_1).f0, (rd_T56 l0_1 x4_1).f1⟩ : S56)]) := ⟨_, rfl⟩
           replace H : (tangramref03_Copy.l0 k1 y156 (wrap64 (x4_1 + 1)) a0_0 l0_1) = some (r1, r2) := by first | (rw [hy156]; with_reducible exact H) | (have H2_ := (Option.bind_some _ _).symm.trans H; rw [hy156]; with_reducible exact H2_) | (have H2_ := (Option.bind_some _ _).symm.trans H; with_reducible exact H2_) | with_reducible exact H | (rw [hy156]; exact H) | exact H
           have Ny156 := Aside0.mk hy156
           clear hy156
           have H' := Aside0.mk H
           clear H
           have hnb7 := NB153_154.out
           have hnc7 := NB154_153.out
           have hcz8_0 : wr.cell? ⟨gb153, 0, none⟩ = some (.int .i64 a0_0) := (blk_cell BK153.out 0).trans rfl
           have hcz8_1 : wr.cell? ⟨gb153, 1, none⟩ = some (.slice A0_1 l0_1.length c0_1) := (blk_cell BK153.out 1).trans rfl
           have hfz8_0 := blk_frozen BK153.out 0
           have hfz8_1 := blk_frozen BK153.out 1
           have p155 : 0 ≤ (x4_1 : Int) := of_decide_eq_true (by first | (with_reducible assumption) | assumption)
           have q155 : x4_1 < (l0_1.length : Int) := of_decide_eq_true (by first | (with_reducible assumption) | assumption)
           obtain ⟨ad155, e155, hx155_0, hx155_1⟩ := at_T56 HR0_1.out x4_1 p155 q155
           cases e155
           replace hx155_0 := (HB.out.cell (World.block_lt_of_cell? w _ hx155_0)).trans hx155_0
           replace hx155_1 := (HB.out.cell (World.block_lt_of_cell? w _ hx155_1)).trans hx155_1
           replace p155 := eq_true p155
           replace q155 := eq_true q155
           go_wp2_with (first | ((with_reducible refine gate_builtin (b := .append) (xs := #[.tmp 12, .tmp 18]) rfl ?_); at_builtin; refine Kd.R_append k56 (w0 := w) w.heap.size rfl (.tmp 12) (.tmp 18) 22 56 (.agg #[(.int .i64 0), (.int .i64 0)]) 16 rfl Try.underlying22 info56 rfl (by decide) (by omega) u3 x3_1 (⟨(rd_T56 l0_1 x4_1).f0, (rd_T56 l0_1 x4_1).f1⟩ : S56) [.int .i64 ((rd_T56 l0_1 x4_1).f0), .int .i64 ((rd_T56 l0_1 x4_1).f1)] (fun _ => True) (fun _ => False) rfl rfl ?aP (fun _ hk => hk.elim) ?aF ?aO ?aB ?aS ?aL ?_; (case aP => exact k56_mkM _ _ _ (⟨(rd_T56 l0_1 x4_1).f0, (rd_T56 l0_1 x4_1).f1⟩ : S56)); (case aB => exact (by repeat (first | (with_reducible first | exact HB.out | apply below_alloc | apply pw_below_drewN | apply below_drew1 | refine below_set ?_ GE153.out | refine below_set ?_ GE154.out) | exact HB.out))); (case aF => exact (fun _ _ => trivial)); (case aO => exact (by (with_reducible repeat (first | apply Kd.R_alloc | apply Kd.R_drewN | apply Kd.R_drew)); exact HO_3.out)); (case aS => exact (below_size (by repeat (first | (with_reducible first | exact HB.out | apply below_alloc | apply pw_below_drewN | apply below_drew1 | refine below_set ?_ GE153.out | refine below_set ?_ GE154.out) | exact HB.out)))); (case aL => have := LMc6.out; omega); intro v157 w9 ho hb hg hat; rw [← Ny156.out] at ho; have n0_ := Aside0.mk (blk_grown (g := gb153) (o := .cells #[.int .i64 a0_0, .slice (some ad155) l0_1.length c0_1] 24 (0, 0)) (by (with_reducible repeat (first | refine blk_drewN ?_ _ | refine blk_drew ?_ | refine blk_alloc ?_ _)); exact BK153.out) hg (Kd.R_ne HO_3.out BK153.out (by decide))); have n1_ := Aside0.mk (blk_grown (g := gb154) (o := .cells #[.int .i64 0, .slice none 0 0] 24 (0, 0)) (by (with_reducible repeat (first | refine blk_drewN ?_ _ | refine blk_drew ?_ | refine blk_alloc ?_ _)); exact BK154.out) hg (Kd.R_ne HO_3.out BK154.out (by decide))); have n2_ := Aside0.mk (hb); have n3_ := Aside0.mk (ho); clear BK153; clear BK154; clear HB; clear HO_3; have BK153 := n0_; have BK154 := n1_; have HB := n2_; have HO158 := n3_; clear n0_ n1_ n2_ n3_; clear ho hb hg hat))
           go_roundg k1
           case measure => have := HK1.out; omega
           case rel => exact ⟨(y156), (wrap64 (x4_1 + 1)), (by first | rfl | (simp; done) | (simp [*]; done)), H', ⟨by have := HK1.out; omega⟩, ⟨by (with_reducible repeat (first | apply Kd.R_alloc | apply Kd.R_drewN | apply Kd.R_drew)); exact HO158.out⟩, ⟨by (with_reducible repeat (first | refine blk_drewN ?_ _ | refine blk_drew ?_ | refine blk_alloc ?_ _)); exact BK153.out⟩, ⟨by (with_reducible repeat (first | refine blk_drewN ?_ _ | refine blk_drew ?_ | refine blk_alloc ?_ _)); exact BK154.out⟩, ⟨by repeat (first | (with_reducible first | exact HB.out | apply below_alloc | apply pw_below_drewN | apply below_drew1 | refine below_set ?_ GE153.out | refine below_set ?_ GE154.out) | exact HB.out)⟩⟩
         · rw [if_neg c6] at H
           exact absurd H (by simp)
       · rw [if_neg c5] at H
         exact absurd H (by simp)
     · rw [if_neg c4] at H
       have c4b0 : decide (x4_1 < (l0_1.length : Int)) = false := decide_eq_false c4
       clear c4
       simp only [Option.some.injEq, Prod.mk.injEq] at H
       obtain ⟨rfl, rfl⟩ := H
       have hnb10 := NB153_154.out
       have hnc10 := NB154_153.out
       have hcz11_0 : wr.cell? ⟨gb153, 0, none⟩ = some (.int .i64 a0_0) := (blk_cell BK153.out 0).trans rfl
       have hcz11_1 : wr.cell? ⟨gb153, 1, none⟩ = some (.slice A0_1 l0_1.length c0_1) := (blk_cell BK153.out 1).trans rfl
       have hfz11_0 := blk_frozen BK153.out 0
       have hfz11_1 := blk_frozen BK153.out 1
       obtain ⟨Ao12, co12, eo12⟩ := Kd.R_slice HO_3.out
       subst eo12
       have hcz13_0 : wr.cell? ⟨gb154, 0, none⟩ = some (.int .i64 0) := (blk_cell BK154.out 0).trans rfl
       have hcz13_1 : wr.cell? ⟨gb154, 1, none⟩ = some (.slice none 0 0) := (blk_cell BK154.out 1).trans rfl
       have hfz13_0 := blk_frozen BK154.out 0
       have hfz13_1 := blk_frozen BK154.out 1
       go_wp2
       refine bodyPost_ret (results_cell_row rfl _ _ gb154 24 #[.int .i64 a0_0, .slice Ao12 x3_1.length co12] (0, 0) _ rfl (by (with_reducible repeat (first | refine blk_drewN ?_ _ | refine blk_drew ?_ | refine blk_alloc ?_ _)); refine blk_put (cs := #[.int .i64 a0_0, .slice none 0 0]) ?_ 1 _ rfl; (with_reducible repeat (first | refine blk_drewN ?_ _ | refine blk_drew ?_ | refine blk_alloc ?_ _)); refine blk_put (cs := #[.int .i64 0, .slice none 0 0]) ?_ 0 _ rfl; (with_reducible repeat (first | refine blk_drewN ?_ _ | refine blk_drew ?_ | refine blk_alloc ?_ _)); exact BK154.out) Try.underlying24 rfl (by kernel_rfl)) rfl ?_
       exact ⟨_, by first | rfl | (simp [errW_none, errW_some] <;> rfl) | (simp [*, errW_none, errW_some] <;> rfl), by (with_reducible repeat (first | apply Kd.R_alloc | apply Kd.R_drewN | apply Kd.R_drew)); exact Kd.R_mono (Kd.R_far (p := ⟨gb154, 1, none⟩) (Kd.R_far (p := ⟨gb154, 0, none⟩) (Kd.R_types HO_3.out BK154.out (by decide)) (fun _ hk => hk.2) (.int .i64 a0_0)) (fun _ hk => hk.2) (.slice Ao12 x3_1.length co12)) (fun _ hk => trivial), by repeat (first | (with_reducible first | exact HB.out | apply below_alloc | apply pw_below_drewN | apply below_drew1 | refine below_set ?_ GE153.out | refine below_set ?_ GE154.out) | exact HB.out)⟩
end Go.Proofs.Ytmikcfddipldnaa.GAll
namespace Go.Proofs.Ytmikcfddipldnaa.GAll
open Go.RowKit Go.Proofs.YtmikcfddipldnaaW.PrintWords Go.Proofs.YtmikcfddipldnaaW.PrintLast Go.Proofs.YtmikcfddipldnaaW.PrintMore
attribute [local go_sem] max2_int min2_int max_two min_two max_three min_three max_four min_four   -- for this text's walks alone
set_option linter.unusedVariables false
set_option linter.unusedSimpArgs false
def tangramref11_Copy.l0 : Nat → List (List Int) → List (List Int) → Int → Option ((List (List Int)))
 | 0, _, _, _ => none
 | k + 1, x0, x3, x4 => if x4 < (x0.length : Int) then ((some (([] : List Int) : List Int)).bind fun y159 => (if 0 ≤ x4 then (if y159.length + (rd_L5 x0 x4).length < 17592186044416 then (if x3.length < 5864062014805 then (tangramref11_Copy.l0 k x0 (x3 ++ [(y159 ++ (rd_L5 x0 x4))]) (wrap64 (x4 + 1))) else (none)) else (none)) else (none))) else (some x3)
def tangramref11_Copy.f (k : Nat) (l0 : List (List Int)) : Option ((List (List Int))) := tangramref11_Copy.l0 k l0 ([] : List (List Int)) 0
theorem tangramref11_Copy.mono_l : ∀ k, (∀ y0 y1 y2, LeO (tangramref11_Copy.l0 k y0 y1 y2) (tangramref11_Copy.l0 (k + 1) y0 y1 y2))
 | 0 => fun _ _ _ r h => by simp [tangramref11_Copy.l0] at h
 | k + 1 => by
   have ih0 := tangramref11_Copy.mono_l k
   · intro y0 y1 y2
     unfold tangramref11_Copy.l0
     repeat' first
     | (with_reducible exact ih0 _ _ _)
     | (with_reducible exact LeO.refl _)
     | (with_reducible exact LeO.none _)
     | (with_reducible refine LeO.ite ?_ ?_)
     | (with_reducible refine LeO.bind ?_ (fun _ => ?_))
     | exact ih0 _ _ _
     | exact LeO.none _
     | refine LeO.ite ?_ ?_
     | refine LeO.bind ?_ (fun _ => ?_)
theorem tangramref11_Copy.mono : ∀ a0 k, LeO (tangramref11_Copy.f k a0) (tangramref11_Copy.f (k + 1) a0) := by
 intro a0 k
 have ih0 := tangramref11_Copy.mono_l k
 unfold tangramref11_Copy.f
 repeat' first
     | (with_reducible exact ih0 _ _ _)
     | (with_reducible exact LeO.refl _)
     | (with_reducible exact LeO.none _)
     | (with_reducible refine LeO.ite ?_ ?_)
     | (with_reducible refine LeO.bind ?_ (fun _ => ?_))
     | exact ih0 _ _ _
     | exact LeO.none _
     | refine LeO.ite ?_ ?_
     | refine LeO.bind ?_ (fun _ => ?_)
set_option maxHeartbeats 8000000 in
set_option maxRecDepth 100000 in
theorem tangramref11_Copy.calls (k : Nat) (A0 : Option Addr) (c0 : Nat) (l0 : List (List Int)) (r : List (List Int)) (w : World) (hr0 : Kd.C (Kd.slice 3 (Kd.int .i64)) w A0 l0.length l0) (hc0 : l0.length ≤ c0) (h : tangramref11_Copy.f k l0 = some r) :
   Calls Try.prog 12 #[.slice A0 l0.length c0] w fun e w' => ∃ v0_ : Value, e = .returned (v0_) ∧ Kd.S (Kd.slice 3 (Kd.int .i64)) 36 w' w.heap.size (fun _ => True) v0_ r ∧ Below w.heap.size w w' := by
 have HR0 := Aside0.mk hr0
 have HC0 := Aside0.mk hc0
 clear hr0 hc0
 have HB := Aside0.mk (Below.refl w.heap.size w)
 have H : (tangramref11_Copy.l0 k l0 ([] : List (List Int)) 0) = some r := h
 clear h
 have H' := Aside0.mk H
 clear H
 go_enter Try.func12, Try.ntmps12
 go_wp2
 go_loopg [3, 4] k (fun kq v3 v4 w' => ∃ (x3_1 : List (List Int)) (x4_1 : Int), v4 = .int .i64 x4_1 ∧ Aside0 (tangramref11_Copy.l0 kq l0 x3_1 x4_1 = some r) ∧ Aside0 (kq ≤ k) ∧ Aside0 (Kd.S (Kd.slice 3 (Kd.int .i64)) 36 w' w.heap.size (fun _ => True) v3 x3_1) ∧ Aside0 (Below w.heap.size w w'))
 case atStart => exact ⟨(([] : List (List Int))), (0), (by first | rfl | (simp; done) | (simp [*]; done)), H', ⟨Nat.le_refl _⟩, ⟨by first | exact Kd.S_nil _ _ _ _ _ | exact Kd.N_nil _ _ _ _ _ | exact Kd.V_nil _ _ _ _ _ | exact Kd.Q_nil _ _ _ _ _ | exact Kd.R_nil _ _ _ _ _⟩, ⟨by repeat (first | (with_reducible first | exact HB.out | apply below_alloc | apply pw_below_drewN | apply below_drew1) | exact HB.out)⟩⟩
 case round =>
   clear H'
   try clear c1
   obtain ⟨x3_1, x4_1, rfl, HA, HK1, HO_3, HB⟩ := hrel
   cases gk with
   | zero => exact absurd HA.out (by simp [tangramref11_Copy.l0])
   | succ k1 =>
     have H := HA.out
     clear HA
     simp only [tangramref11_Copy.l0] at H
     by_cases c2 : x4_1 < (l0.length : Int)
     · rw [if_pos c2] at H
       have c2b0 : decide (x4_1 < (l0.length : Int)) = true := decide_eq_true c2
       clear c2
       obtain ⟨y159, hy159⟩ : ∃ y_ : List Int, y_ = (([] : List Int)) := ⟨_, rfl⟩
       replace H : (if 0 ≤ x4_1 then (if y159.length + (rd_L5 l0 x4_1).length < 17592186044416 then (if x3_1.length < 5864062014805 then (tangramref11_Copy.l0 k1 l0 (x3_1 ++ [(y159 ++ (rd_L5 l0 x4_1))]) (wrap64 (x4_1 + 1))) else (none)) else (none)) else (none)) = some r := by first | (rw [hy159]; with_reducible exact H) | (have H2_ := (Option.bind_some _ _).symm.trans H; rw [hy159]; with_reducible exact H2_) | (have H2_ := (Option.bind_some _ _).symm.trans H; with_reducible exact H2_) | with_reducible exact H | (rw [hy159]; exact H) | exact H
       have Ny159 := Aside0.mk hy159
       clear hy159
       by_cases c3 : 0 ≤ x4_1
       · rw [if_pos c3] at H
         have c3b0 : decide (0 ≤ x4_1) = true := decide_eq_true c3
         clear c3
         by_cases c4 : y159.length + (rd_L5 l0 x4_1).length < 17592186044416
         · rw [if_pos c4] at H
           have LMc4 := Aside0.mk c4
           clear c4
           obtain ⟨y163, hy163⟩ : ∃ y_ : List Int, y_ = (y159 ++ (rd_L5 l0 x4_1)) := ⟨_, rfl⟩
           replace H : (if x3_1.length < 5864062014805 then (tangramref11_Copy.l0 k1 l0 (x3_1 ++ [y163]) (wrap64 (x4_1 + 1))) else (none)) = some r := by first | (rw [hy163]; with_reducible exact H) | (have H2_ := (Option.bind_some _ _).symm.trans H; rw [hy163]; with_reducible exact H2_) | (have H2_ := (Option.bind_some _ _).symm.trans H; with_reducible exact H2_) | with_reducible exact H | (rw [hy163]; exact H) | exact H
           have Ny163 := Aside0.mk hy163
           clear hy163
           by_cases c5 : x3_1.length < 5864062014805
           · rw [if_pos c5] at H
             have LMc5 := Aside0.mk c5
             clear c5
             obtain ⟨y166, hy166⟩ : ∃ y_ : List (List Int), y_ = (x3_1 ++ [y163]) := ⟨_, rfl⟩
             replace H : (tangramref11_Copy.l0 k1 l0 y166 (wrap64 (x4_1 + 1))) = some r := by first | (rw [hy166]; with_reducible exact H) | (have H2_ := (Option.bind_some _ _).symm.trans H; rw [hy166]; with_reducible exact H2_) | (have H2_ := (Option.bind_some _ _).symm.trans H; with_reducible exact H2_) | with_reducible exact H | (rw [hy166]; exact H) | exact H
             have Ny166 := Aside0.mk hy166
             clear hy166
             have H' := Aside0.mk H
             clear H
             go_wp2_with (first | ((with_reducible refine gate_dst (N := 12) rfl ?_); refine Kd.R_lit (Kd.int .i64) _ 3 ?hg (N := 12) ?hd (xs := ([] : List Int)) (inner := []) (ok := fun _ => True) (okp := fun _ => True) ?hr ?hp (fun _ hk => hk) trivial (Below.refl _ _) (Nat.le_refl _) (by simp) ?_; (case hd => rfl); (case hg => rfl); (case hr => first | (go_simp; done) | (go_simp; rfl)); (case hp => exact (Reps.none _ _)); intro v160 w6 ho7 hb hg_ hnew_; clear hg_ hnew_; (first | rw [← Ny159.out] at ho7 | (simp only [Int.reduceToNat] at ho7; rw [← Ny159.out] at ho7)); have n0_ := Aside0.mk (Kd.S_elder' (by (with_reducible repeat (first | apply Kd.S_alloc | apply Kd.S_drewN | apply Kd.S_drew)); exact HO_3.out) (Kd.R_base ho7) hb); have n1_ := Aside0.mk (Kd.R_lower ho7 (below_size (by repeat (first | (with_reducible first | exact HB.out | apply below_alloc | apply pw_below_drewN | apply below_drew1) | exact HB.out)))); have n2_ := Aside0.mk (below_step (by repeat (first | (with_reducible first | exact HB.out | apply below_alloc | apply pw_below_drewN | apply below_drew1) | exact HB.out)) hb); clear HO_3; clear HB; have HO_3 := n0_; have HO161 := n1_; have HB := n2_; clear n0_ n1_ n2_; clear hb ho7; have p162 : 0 ≤ (x4_1 : Int) := of_decide_eq_true (by first | (with_reducible assumption) | assumption); have q162 : x4_1 < (l0.length : Int) := of_decide_eq_true (by first | (with_reducible assumption) | assumption); obtain ⟨ad162, A162_0, c162_0, e162, hx162_0, hl162_0, hi162_0⟩ := at_L5 HR0.out x4_1 p162 q162; cases e162; replace hx162_0 := (HB.out.cell (World.block_lt_of_cell? w _ hx162_0)).trans hx162_0; have HR162_0 := Aside0.mk hi162_0; have HC162_0 := Aside0.mk hl162_0; clear hi162_0 hl162_0; replace p162 := eq_true p162; replace q162 := eq_true q162) | ((with_reducible refine gate_builtin (b := .append) (xs := #[.tmp 12, .tmp 16]) rfl ?_); at_builtin; refine Kd.R_append_rows (Kd.int .i64) (w0 := w) w.heap.size rfl (.tmp 12) (.tmp 16) 36 3 (.int .i64 0) 8 rfl Try.underlying36 info3 rfl (by decide) (by omega) v160 y159 (rd_L5 l0 x4_1) _ _ _ (fun _ => True) (fun _ => False) rfl rfl ?aO ?aR (fun _ _ h => h) (fun _ h => h.elim) ?aF ?aB ?aS ?aL ?_; (case aR => repeat (first | exact (Kd.C_below HR162_0.out HB.out) | (with_reducible refine Kd.C_alloc ?_ _) | (with_reducible refine Kd.C_drewN ?_ _) | (with_reducible refine Kd.C_drew ?_))); (case aB => exact (by repeat (first | (with_reducible first | exact HB.out | apply below_alloc | apply pw_below_drewN | apply below_drew1) | exact HB.out))); (case aF => exact (fun _ _ => trivial)); (case aO => exact (by (with_reducible repeat (first | apply Kd.R_alloc | apply Kd.R_drewN | apply Kd.R_drew)); exact HO161.out)); (case aS => exact (below_size (by repeat (first | (with_reducible first | exact HB.out | apply below_alloc | apply pw_below_drewN | apply below_drew1) | exact HB.out)))); (case aL => have := LMc4.out; omega); intro v164 w8 ho hb hg hat; rw [← Ny163.out] at ho; have n0_ := Aside0.mk (Kd.S_after (ok := (fun _ => True)) (by (with_reducible repeat (first | apply Kd.S_alloc | apply Kd.S_drewN | apply Kd.S_drew)); exact HO_3.out) hg hat); have n1_ := Aside0.mk (hb); have n2_ := Aside0.mk (ho); clear HO_3; clear HB; clear HO161; have HO_3 := n0_; have HB := n1_; have HO165 := n2_; clear n0_ n1_ n2_; clear ho hb hg hat; obtain ⟨Ao10, co10, eo10⟩ := Kd.R_slice HO165.out; subst eo10) | ((with_reducible refine gate_builtin (b := .append) (xs := #[.tmp 11, .tmp 18]) rfl ?_); at_builtin; refine Kd.S_append (Kd.slice 3 (Kd.int .i64)) (w0 := w) w.heap.size rfl (.tmp 11) (.tmp 18) 26 36 (.slice none 0 0) 24 rfl Try.underlying26 info36 rfl (by decide) (by omega) u3 x3_1 y163 [.slice Ao10 y163.length co10] (fun _ => True) (fun k_ => some k_ = (.slice Ao10 y163.length co10 : Value).ownBlock) rfl rfl ?aP (fun k_ hk_ => ((Kd.R_mono (ok' := fun k_ => ((fun _ => True)) k_ ∧ some k_ ≠ (u3 : Value).ownBlock) (Kd.R_apart' (HO165.out) (Kd.S_typed HO_3.out) (by decide)) (fun k_ hk => ⟨trivial, hk.2⟩))).1 k_ hk_.symm) ?aF ?aO ?aB ?aS ?aL ?_; (case aP => exact Kd.M_row (Kd.R_mono (Kd.R_tight rfl (Kd.R_mono (ok' := fun k_ => ((fun _ => True)) k_ ∧ some k_ ≠ (u3 : Value).ownBlock) (Kd.R_apart' (HO165.out) (Kd.S_typed HO_3.out) (by decide)) (fun k_ hk => ⟨trivial, hk.2⟩))) (fun _ h_ => h_))); (case aB => exact (by repeat (first | (with_reducible first | exact HB.out | apply below_alloc | apply pw_below_drewN | apply below_drew1) | exact HB.out))); (case aF => exact (fun _ _ => trivial)); (case aO => exact (by (with_reducible repeat (first | apply Kd.S_alloc | apply Kd.S_drewN | apply Kd.S_drew)); exact Kd.S_mono HO_3.out (fun k_ hk => ⟨trivial, fun e_ => hk.2 e_⟩))); (case aS => exact (below_size (by repeat (first | (with_reducible first | exact HB.out | apply below_alloc | apply pw_below_drewN | apply below_drew1) | exact HB.out)))); (case aL => have := LMc5.out; omega); intro v167 w9 ho hb hg hat; rw [← Ny166.out] at ho; have n0_ := Aside0.mk (hb); have n1_ := Aside0.mk (ho); clear HB; clear HO_3; clear HO165; have HB := n0_; have HO168 := n1_; clear n0_ n1_; clear ho hb hg hat))
             go_roundg k1
             case measure => have := HK1.out; omega
             case rel => exact ⟨(y166), (wrap64 (x4_1 + 1)), (by first | rfl | (simp; done) | (simp [*]; done)), H', ⟨by have := HK1.out; omega⟩, ⟨by (with_reducible repeat (first | apply Kd.S_alloc | apply Kd.S_drewN | apply Kd.S_drew)); exact HO168.out⟩, ⟨by repeat (first | (with_reducible first | exact HB.out | apply below_alloc | apply pw_below_drewN | apply below_drew1) | exact HB.out)⟩⟩
           · rw [if_neg c5] at H
             exact absurd H (by simp)
         · rw [if_neg c4] at H
           exact absurd H (by simp)
       · rw [if_neg c3] at H
         exact absurd H (by simp)
     · rw [if_neg c2] at H
       have c2b0 : decide (x4_1 < (l0.length : Int)) = false := decide_eq_false c2
       clear c2
       obtain rfl := Option.some.inj H
       go_wp2
       go_ret
       exact ⟨_, by first | rfl | (simp [errW_none, errW_some] <;> rfl) | (simp [*, errW_none, errW_some] <;> rfl), by (with_reducible repeat (first | apply Kd.S_alloc | apply Kd.S_drewN | apply Kd.S_drew)); exact HO_3.out, by repeat (first | (with_reducible first | exact HB.out | apply below_alloc | apply pw_below_drewN | apply below_drew1) | exact HB.out)⟩
end Go.Proofs.Ytmikcfddipldnaa.GAll
namespace Go.Proofs.Ytmikcfddipldnaa.Rot
open Go.RowKit Go.Proofs.YtmikcfddipldnaaW.PrintWords Go.Proofs.YtmikcfddipldnaaW.PrintLast Go.Proofs.YtmikcfddipldnaaW.PrintMore Go.Proofs.Ytmikcfddipldnaa.GAll Go.Proofs.Ytmikcfddipldnaa.Mem
set_option linter.unusedVariables false
set_option linter.unusedSimpArgs false
theorem w1 {i : Nat} (h : i < 9223372036854775807) : wrap64 ((i : Int) + 1) = ((i + 1 : Nat) : Int) := by rw [IntWalk.wrap64_in _ (by omega)]; omega
theorem gi_get {l : List Int} {i : Nat} (h : i < l.length) : gi l i = l[i] := by unfold gi; rw [List.getD_eq_getElem?_getD, List.getElem?_eq_getElem h]; rfl
theorem ints_ev {a b : List Int} (hm : a.length ≤ 9000000000000000) : Ev (fun k => tangramref03_SameInts.f k a b) (decide (a = b)) := by
 by_cases h : a.length = b.length
 · have loop : ∀ (d i : Nat), i + d = a.length → a.take i = b.take i → Ev (fun k => tangramref03_SameInts.l0 k a b (i : Int)) (decide (a = b)) := by
     intro d
     induction d with
     | zero =>
       intro i hi ht
       rw [List.take_of_length_le (by omega), List.take_of_length_le (by omega)] at ht
       rw [decide_eq_true ht]
       refine Ev.step (f := fun _ => some true) (fun k => ?_) (Ev.now _)
       simp only [tangramref03_SameInts.l0]
       rw [if_neg (by omega)]
     | succ d ih =>
       intro i hi ht
       have hx : i < a.length := by omega
       have hy : i < b.length := by omega
       by_cases e : a[i] = b[i]
       · refine Ev.step (fun k => ?_) (ih (i + 1) (by omega) (by rw [List.take_succ_eq_append_getElem hx, List.take_succ_eq_append_getElem hy, ht, e]))
         simp only [tangramref03_SameInts.l0]
         rw [if_pos (by omega), if_pos (by omega), if_pos (by omega), gi_rd, gi_rd, gi_get hx, gi_get hy, if_pos e, w1 (by omega)]
       · rw [decide_eq_false (by rintro rfl; exact e rfl)]
         refine Ev.step (f := fun _ => some false) (fun k => ?_) (Ev.now _)
         simp only [tangramref03_SameInts.l0]
         rw [if_pos (by omega), if_pos (by omega), if_pos (by omega), gi_rd, gi_rd, gi_get hx, gi_get hy, if_neg e]
   have := loop a.length 0 (by omega) rfl
   unfold tangramref03_SameInts.f
   exact Ev.congr (fun k => if_pos (by omega)) this
 · rw [decide_eq_false (fun e => h (by rw [e]))]
   unfold tangramref03_SameInts.f
   exact Ev.congr (fun k => if_neg (by omega)) (Ev.now _)
theorem ints_same {a : List Int} (hm : a.length ≤ 9000000000000000) : Ev (fun k => tangramref03_SameInts.f k a a) true := by
 have := ints_ev (a := a) (b := a) hm
 rw [decide_eq_true rfl] at this
 exact this
theorem copy3_ev (n : Int) (l : List Ed) (hl : l.length ≤ 8796093022208) : Ev (fun k => tangramref03_Copy.f k n l) (n, l) := by
 have loop : ∀ (d i : Nat), i + d = l.length → Ev (fun k => tangramref03_Copy.l0 k (l.take i) (i : Int) n l) (n, l) := by
   intro d
   induction d with
   | zero =>
     intro i hi
     refine Ev.step (f := fun _ => some (n, l)) (fun k => ?_) (Ev.now _)
     simp only [tangramref03_Copy.l0]
     rw [if_neg (by omega), List.take_of_length_le (by omega)]
   | succ d ih =>
     intro i hi
     have hx : i < l.length := by omega
     refine Ev.step (fun k => ?_) (ih (i + 1) (by omega))
     simp only [tangramref03_Copy.l0]
     have e : PureV.rdE l (i : Nat) = l[i] := by
       show l.getD ((i : Int).toNat) _ = _
       rw [Int.toNat_natCast, List.getD_eq_getElem?_getD, List.getElem?_eq_getElem hx]
       rfl
     rw [if_pos (by omega), if_pos (by omega), if_pos (by rw [List.length_take]; omega), w1 (by omega), List.take_succ_eq_append_getElem hx]
     change tangramref03_Copy.l0 k (l.take i ++ [⟨(PureV.rdE l (i : Nat)).f0, (PureV.rdE l (i : Nat)).f1⟩]) _ n l = _
     rw [e]
 exact loop l.length 0 (by omega)
theorem copy11_ev (r : List (List Int)) (hs : Small r) : Ev (fun k => tangramref11_Copy.f k r) r := by
 have h1 := hs.1
 have loop : ∀ (d i : Nat), i + d = r.length → Ev (fun k => tangramref11_Copy.l0 k r (r.take i) (i : Int)) r := by
   intro d
   induction d with
   | zero =>
     intro i hi
     refine Ev.step (f := fun _ => some r) (fun k => ?_) (Ev.now _)
     simp only [tangramref11_Copy.l0]
     rw [if_neg (by omega), List.take_of_length_le (by omega)]
   | succ d ih =>
     intro i hi
     have hx : i < r.length := by omega
     have h2 := hs.2 _ (List.getElem_mem hx)
     refine Ev.step (fun k => ?_) (ih (i + 1) (by omega))
     simp only [tangramref11_Copy.l0]
     have e : r.getD ((i : Int).toNat) [] = r[i] := by rw [Int.toNat_natCast, List.getD_eq_getElem?_getD, List.getElem?_eq_getElem hx]; rfl
     rw [if_pos (by omega), Option.bind_some, if_pos (by omega)]
     change (if ([] : List Int).length + (r.getD ((i : Int).toNat) []).length < _ then (if _ then tangramref11_Copy.l0 k r (r.take i ++ [[] ++ r.getD ((i : Int).toNat) []]) _ else none) else none) = _
     rw [e, List.nil_append, if_pos (by simp only [List.length_nil]; omega), if_pos (by rw [List.length_take]; omega), w1 (by omega), List.take_succ_eq_append_getElem hx]
 exact loop r.length 0 (by omega)
end Go.Proofs.Ytmikcfddipldnaa.Rot
namespace Go.Proofs.Ytmikcfddipldnaa.GAll
open Go.RowKit Go.Proofs.YtmikcfddipldnaaW.PrintWords Go.Proofs.YtmikcfddipldnaaW.PrintLast Go.Proofs.YtmikcfddipldnaaW.PrintMore
attribute [local go_sem] max2_int min2_int max_two min_two max_three min_three max_four min_four   -- for this text's walks alone
set_option linter.unusedVariables false
set_option linter.unusedSimpArgs false
mutual
def faces_Of.l0 : Nat → List Int → List Bool → List (List Int) → Int → Int → Option ((List (List Int)) × Int)
 | 0, _, _, _, _, _ => none
 | k + 1, x6, x8, x9, x26, x27 => if x27 < x26 then (faces_Of.l1 k x6 x8 x9 ([] : List Int) x27 x26 x27) else (some (x9, 0))
def faces_Of.l1 : Nat → List Int → List Bool → List (List Int) → List Int → Int → Int → Int → Option ((List (List Int)) × Int)
 | 0, _, _, _, _, _, _, _ => none
 | k + 1, x6, x8, x9, x11, x12, x26, x27 => if 0 ≤ x12 then (if x12 < (x8.length : Int) then (if rdOf false x8 x12 = true then (if (x11.length : Int) > 0 then (if x9.length < 5864062014805 then (faces_Of.l0 k x6 x8 (x9 ++ [x11]) x26 (wrap64 (x27 + 1))) else (none)) else (faces_Of.l0 k x6 x8 x9 x26 (wrap64 (x27 + 1)))) else (if x11.length < 17592186044416 then (if 0 ≤ (Go.bits .xor .i64 x12 1) then (if (Go.bits .xor .i64 x12 1) < (x6.length : Int) then (faces_Of.l1 k x6 (x8.set (x12 : Int).toNat true) x9 (x11 ++ [x12]) (rd x6 (Go.bits .xor .i64 x12 1)) x26 x27) else (none)) else (none)) else (none))) else (none)) else (none)
end
def faces_Of.f (k : Nat) (a0_0 : Int) (l0_1 : List (S56)) (l1 : List (List Int)) : Option ((List (List Int)) × Int) := (rot_Next.f k a0_0 l0_1 l1).bind fun bt113 => (if bt113.2 = 0 then (if 0 ≤ (bt113.1.length : Int) then (if ((bt113.1.length : Int) : Int).toNat ≤ 281474976710656 then (faces_Of.l0 k bt113.1 (List.replicate ((bt113.1.length : Int) : Int).toNat false) ([] : List (List Int)) (bt113.1.length : Int) 0) else (none)) else (none)) else (some (([] : List (List Int)), bt113.2)))
theorem faces_Of.mono_l : ∀ k, (∀ y0 y1 y2 y3 y4, LeO (faces_Of.l0 k y0 y1 y2 y3 y4) (faces_Of.l0 (k + 1) y0 y1 y2 y3 y4)) ∧ (∀ y0 y1 y2 y3 y4 y5 y6, LeO (faces_Of.l1 k y0 y1 y2 y3 y4 y5 y6) (faces_Of.l1 (k + 1) y0 y1 y2 y3 y4 y5 y6))
 | 0 => ⟨fun _ _ _ _ _ r h => by simp [faces_Of.l0] at h, fun _ _ _ _ _ _ _ r h => by simp [faces_Of.l1] at h⟩
 | k + 1 => by
   obtain ⟨ih0, ih1⟩ := faces_Of.mono_l k
   refine ⟨?_, ?_⟩
   · intro y0 y1 y2 y3 y4
     unfold faces_Of.l0
     repeat' first
     | (with_reducible exact ih0 _ _ _ _ _)
     | (with_reducible exact ih1 _ _ _ _ _ _ _)
     | (with_reducible exact rot_Next.mono _ _ _ _)
     | (with_reducible exact LeO.refl _)
     | (with_reducible exact LeO.none _)
     | (with_reducible refine LeO.ite ?_ ?_)
     | (with_reducible refine LeO.bind ?_ (fun _ => ?_))
     | exact ih0 _ _ _ _ _
     | exact ih1 _ _ _ _ _ _ _
     | exact rot_Next.mono _ _ _ _
     | exact LeO.none _
     | refine LeO.ite ?_ ?_
     | refine LeO.bind ?_ (fun _ => ?_)
   · intro y0 y1 y2 y3 y4 y5 y6
     unfold faces_Of.l1
     repeat' first
     | (with_reducible exact ih0 _ _ _ _ _)
     | (with_reducible exact ih1 _ _ _ _ _ _ _)
     | (with_reducible exact rot_Next.mono _ _ _ _)
     | (with_reducible exact LeO.refl _)
     | (with_reducible exact LeO.none _)
     | (with_reducible refine LeO.ite ?_ ?_)
     | (with_reducible refine LeO.bind ?_ (fun _ => ?_))
     | exact ih0 _ _ _ _ _
     | exact ih1 _ _ _ _ _ _ _
     | exact rot_Next.mono _ _ _ _
     | exact LeO.none _
     | refine LeO.ite ?_ ?_
     | refine LeO.bind ?_ (fun _ => ?_)
theorem faces_Of.mono : ∀ a0 a1 a2 k, LeO (faces_Of.f k a0 a1 a2) (faces_Of.f (k + 1) a0 a1 a2) := by
 intro a0 a1 a2 k
 obtain ⟨ih0, ih1⟩ := faces_Of.mono_l k
 unfold faces_Of.f
 repeat' first
     | (with_reducible exact ih0 _ _ _ _ _)
     | (with_reducible exact ih1 _ _ _ _ _ _ _)
     | (with_reducible exact rot_Next.mono _ _ _ _)
     | (with_reducible exact LeO.refl _)
     | (with_reducible exact LeO.none _)
     | (with_reducible refine LeO.ite ?_ ?_)
     | (with_reducible refine LeO.bind ?_ (fun _ => ?_))
     | exact ih0 _ _ _ _ _
     | exact ih1 _ _ _ _ _ _ _
     | exact rot_Next.mono _ _ _ _
     | exact LeO.none _
     | refine LeO.ite ?_ ?_
     | refine LeO.bind ?_ (fun _ => ?_)
set_option maxHeartbeats 8000000 in
set_option maxRecDepth 100000 in
theorem faces_Of.calls (k : Nat) (a0_0 : Int) (A0_1 : Option Addr) (c0_1 : Nat) (l0_1 : List (S56)) (A1 : Option Addr) (c1 : Nat) (l1 : List (List Int)) (r1 : List (List Int)) (r2 : Int) (w : World) (hr0_1 : Kd.C k56 w A0_1 l0_1.length l0_1) (hc0_1 : l0_1.length ≤ c0_1) (hr1 : Kd.C (Kd.slice 3 (Kd.int .i64)) w A1 l1.length l1) (hc1 : l1.length ≤ c1) (h : faces_Of.f k a0_0 l0_1 l1 = some (r1, r2)) :
   Calls Try.prog 10 #[.agg #[.int .i64 a0_0, .slice A0_1 l0_1.length c0_1], .slice A1 l1.length c1] w fun e w' => ∃ v0_ : Value, e = .returned (.tuple #[v0_, .int .i64 r2]) ∧ Kd.S (Kd.slice 3 (Kd.int .i64)) 36 w' w.heap.size (fun _ => True) v0_ r1 ∧ Below w.heap.size w w' := by
 have hu24 := Try.underlying24
 have HR0_1 := Aside0.mk hr0_1
 have HC0_1 := Aside0.mk hc0_1
 clear hr0_1 hc0_1
 have HR1 := Aside0.mk hr1
 have HC1 := Aside0.mk hc1
 clear hr1 hc1
 have HB := Aside0.mk (Below.refl w.heap.size w)
 have H : ((rot_Next.f k a0_0 l0_1 l1).bind fun bt113 => (if bt113.2 = 0 then (if 0 ≤ (bt113.1.length : Int) then (if ((bt113.1.length : Int) : Int).toNat ≤ 281474976710656 then (faces_Of.l0 k bt113.1 (List.replicate ((bt113.1.length : Int) : Int).toNat false) ([] : List (List Int)) (bt113.1.length : Int) 0) else (none)) else (none)) else (some (([] : List (List Int)), bt113.2)))) = some (r1, r2) := h
 clear h
 replace H := Option.bind_eq_some_iff.mp H
 obtain ⟨⟨t113, t116⟩, A30, H⟩ := H
 replace H : (if t116 = 0 then (if 0 ≤ (t113.length : Int) then (if ((t113.length : Int) : Int).toNat ≤ 281474976710656 then (faces_Of.l0 k t113 (List.replicate ((t113.length : Int) : Int).toNat false) ([] : List (List Int)) (t113.length : Int) 0) else (none)) else (none)) else (some (([] : List (List Int)), t116))) = some (r1, r2) := H
 have A3 := Aside0.mk A30
 clear A30
 by_cases c4 : t116 = 0
 · rw [if_pos c4] at H
   have c4b0 : (t116 == 0) = true := beq_iff_eq.mpr c4
   have c4b1 : (t116 != 0) = false := bne_eq_false_iff_eq.mpr c4
   clear c4
   by_cases c5 : 0 ≤ (t113.length : Int)
   · rw [if_pos c5] at H
     have c5b0 := eq_true c5
     have c5b1 : decide (0 ≤ (t113.length : Int)) = true := decide_eq_true c5
     clear c5
     by_cases c6 : ((t113.length : Int) : Int).toNat ≤ 281474976710656
     · rw [if_pos c6] at H
       have c6b0 := eq_true c6
       have c6b1 : decide (((t113.length : Int) : Int).toNat ≤ 281474976710656) = true := decide_eq_true c6
       clear c6
       obtain ⟨y117, hy117⟩ : ∃ y_ : List Bool, y_ = (List.replicate ((t113.length : Int) : Int).toNat false) := ⟨_, rfl⟩
       replace H : (faces_Of.l0 k t113 y117 ([] : List (List Int)) (t113.length : Int) 0) = some (r1, r2) := by first | (rw [hy117]; with_reducible exact H) | (have H2_ := (Option.bind_some _ _).symm.trans H; rw [hy117]; with_reducible exact H2_) | (have H2_ := (Option.bind_some _ _).symm.trans H; with_reducible exact H2_) | with_reducible exact H | (rw [hy117]; exact H) | exact H
       have Ny117 := Aside0.mk hy117
       clear hy117
       have H' := Aside0.mk H
       clear H
       go_enter Try.func10, Try.ntmps10
       go_wp2_with (first | ((with_reducible refine gate_dst (N := 2) rfl ?_); refine box_event ?hg (N := 2) ?hd (cs := #[.int .i64 a0_0, .slice A0_1 l0_1.length c0_1]) (t := 24) ?hr ?_; (case hd => rfl); (case hg => rfl); (case hr => first | (go_simp; done) | (go_simp; rfl)); intro gb112 hg w7 hbox hb; have n0_ := Aside0.mk (below_step (by repeat (first | (with_reducible first | exact HB.out | apply below_alloc | apply pw_below_drewN | apply below_drew1) | exact HB.out)) hb); have n1_ := Aside0.mk (hbox); have n2_ := Aside0.mk ((by rw [hg]; exact (below_size (by repeat (first | (with_reducible first | exact HB.out | apply below_alloc | apply pw_below_drewN | apply below_drew1) | exact HB.out))) : w.heap.size ≤ gb112)); have n3_ := Aside0.mk ((by rw [hg]; exact (below_size (by repeat (first | (with_reducible first | exact HB.out | apply below_alloc | apply pw_below_drewN | apply below_drew1) | exact HB.out))) : w.heap.size ≤ gb112)); clear HB; have HB := n0_; have BK112 := n1_; have GW112 := n2_; have GE112 := n3_; clear n0_ n1_ n2_ n3_; clear hb hbox hg; have hcz8_0 : w7.cell? ⟨gb112, 0, none⟩ = some (.int .i64 a0_0) := (blk_cell BK112.out 0).trans rfl; have hcz8_1 : w7.cell? ⟨gb112, 1, none⟩ = some (.slice A0_1 l0_1.length c0_1) := (blk_cell BK112.out 1).trans rfl; have hfz8_0 := blk_frozen BK112.out 0; have hfz8_1 := blk_frozen BK112.out 1) | ((with_reducible refine gate_callee (f := 22) rfl ?_); refine goesL_ (some 16) rfl rfl Try.func22 (by kernel_rfl) rfl #[.agg #[.int .i64 a0_0, .slice A0_1 l0_1.length c0_1], .slice A1 l1.length c1] rfl (by (try simp only [List.map_toArray, List.map_cons, List.map_nil]); first | done | rfl | (simp only [List.length_drop, List.length_take]; rfl)) ?_; (with_reducible refine (rot_Next.calls k a0_0 _ _ l0_1 _ _ l1 t113 t116 _ ?side1 ?side2 ?side3 ?side4 A3.out).mono ?_); (case side1 => repeat (first | exact (Kd.C_below HR0_1.out HB.out) | (with_reducible refine Kd.C_alloc ?_ _) | (with_reducible refine Kd.C_drewN ?_ _) | (with_reducible refine Kd.C_drew ?_))); (case side2 => exact HC0_1.out); (case side3 => repeat (first | exact (Kd.C_below HR1.out HB.out) | (with_reducible refine Kd.C_alloc ?_ _) | (with_reducible refine Kd.C_drewN ?_ _) | (with_reducible refine Kd.C_drew ?_))); (case side4 => exact HC1.out); rintro e w9 ⟨v114, rfl, ho0, hb⟩; refine ⟨_, rfl, ?_⟩; have n0_ := Aside0.mk (Kd.R_lower ho0 (below_size (by repeat (first | (with_reducible first | exact HB.out | apply below_alloc | apply pw_below_drewN | apply below_drew1 | refine below_set ?_ GE112.out) | exact HB.out)))); have n1_ := Aside0.mk (blk_below (g := gb112) (o := .cells #[.int .i64 a0_0, .slice A0_1 l0_1.length c0_1] 24 (0, 0)) (by (with_reducible repeat (first | refine blk_drewN ?_ _ | refine blk_drew ?_ | refine blk_alloc ?_ _)); exact BK112.out) hb); have n2_ := Aside0.mk (below_step (by repeat (first | (with_reducible first | exact HB.out | apply below_alloc | apply pw_below_drewN | apply below_drew1 | refine below_set ?_ GE112.out) | exact HB.out)) hb); clear BK112; clear HB; have HO115 := n0_; have BK112 := n1_; have HB := n2_; clear n0_ n1_ n2_; (try clear hb); (try clear hb2); (try clear hk); (try clear hi); (try clear ho0); obtain ⟨Ao10, co10, eo10⟩ := Kd.R_slice HO115.out; subst eo10) | ((with_reducible refine gate_dst (N := 24) rfl ?_); refine Kd.R_make Kd.bool _ 4 rfl (N := 24) rfl 60 _ _ rfl (t113.length : Int) rfl rfl Try.underlying60 (.bool false) 1 info4 rfl (by decide) (by omega) false (ok := fun _ => True) (okp := fun _ => True) rfl (fun _ hk => hk) trivial (of_decide_eq_true (by first | (with_reducible assumption) | assumption)) (Nat.le_trans (Nat.mul_le_mul_right _ (of_decide_eq_true (by first | (with_reducible assumption) | assumption) : (t113.length : Int).toNat ≤ 281474976710656)) (by omega)) (Below.refl _ _) (Nat.le_refl _) ?_; intro v118 w11 ho12 hb hg_ hnew_; clear hg_ hnew_; (first | rw [← Ny117.out] at ho12 | (simp only [Int.reduceToNat] at ho12; rw [← Ny117.out] at ho12)); have n0_ := Aside0.mk (Kd.R_below (by (with_reducible repeat (first | apply Kd.R_alloc | apply Kd.R_drewN | apply Kd.R_drew)); exact HO115.out) hb); have n1_ := Aside0.mk (Kd.R_lower ho12 (below_size (by repeat (first | (with_reducible first | exact HB.out | apply below_alloc | apply pw_below_drewN | apply below_drew1 | refine below_set ?_ GE112.out) | exact HB.out)))); have n2_ := Aside0.mk (blk_below (g := gb112) (o := .cells #[.int .i64 a0_0, .slice A0_1 l0_1.length c0_1] 24 (0, 0)) (by (with_reducible repeat (first | refine blk_drewN ?_ _ | refine blk_drew ?_ | refine blk_alloc ?_ _)); exact BK112.out) hb); have n3_ := Aside0.mk (below_step (by repeat (first | (with_reducible first | exact HB.out | apply below_alloc | apply pw_below_drewN | apply below_drew1 | refine below_set ?_ GE112.out) | exact HB.out)) hb); clear HO115; clear BK112; clear HB; have HO115 := n0_; have HO119 := n1_; have BK112 := n2_; have HB := n3_; clear n0_ n1_ n2_ n3_; clear hb ho12))
       go_loopg [9, 27] k (fun kq v9 v27 w' => ∃ (x8_1 : List Bool) (x9_1 : List (List Int)) (x27_1 : Int), v27 = .int .i64 x27_1 ∧ Aside0 (faces_Of.l0 kq t113 x8_1 x9_1 (t113.length : Int) x27_1 = some (r1, r2)) ∧ Aside0 (kq ≤ k) ∧ Aside0 (Kd.R (Kd.int .i64) 3 w' w.heap.size (fun _ => True) (.slice Ao10 t113.length co10) t113) ∧ Aside0 (Kd.R Kd.bool 4 w' w.heap.size (fun _ => True) v118 x8_1) ∧ Aside0 (Kd.S (Kd.slice 3 (Kd.int .i64)) 36 w' w.heap.size (fun k_ => some k_ ≠ ((.slice Ao10 t113.length co10) : Value).ownBlock) v9 x9_1) ∧ Aside0 (w'.heap[gb112]? = some (.cells #[.int .i64 a0_0, (.slice A0_1 l0_1.length c0_1)] 24 (0, 0))) ∧ Aside0 (Below w.heap.size w w'))
       case atStart => exact ⟨(y117), (([] : List (List Int))), (0), (by first | rfl | (simp; done) | (simp [*]; done)), H', ⟨Nat.le_refl _⟩, ⟨by (with_reducible repeat (first | apply Kd.R_alloc | apply Kd.R_drewN | apply Kd.R_drew)); exact HO115.out⟩, ⟨by (with_reducible repeat (first | apply Kd.R_alloc | apply Kd.R_drewN | apply Kd.R_drew)); exact HO119.out⟩, ⟨by first | exact Kd.S_nil _ _ _ _ _ | exact Kd.N_nil _ _ _ _ _ | exact Kd.V_nil _ _ _ _ _ | exact Kd.Q_nil _ _ _ _ _ | exact Kd.R_nil _ _ _ _ _⟩, ⟨by (with_reducible repeat (first | refine blk_drewN ?_ _ | refine blk_drew ?_ | refine blk_alloc ?_ _)); exact BK112.out⟩, ⟨by repeat (first | (with_reducible first | exact HB.out | apply below_alloc | apply pw_below_drewN | apply below_drew1 | refine below_set ?_ GE112.out) | exact HB.out)⟩⟩
       case round =>
         clear H'
         try clear c1
         try clear c2
         try clear p2
         try clear c4
         try clear c4b0
         try clear c4b1
         try clear c5
         try clear c5b0
         try clear c5b1
         try clear c6
         try clear c6b0
         try clear c6b1
         try clear c10
         try clear hcz8_0
         try clear hcz8_1
         try clear hfz8_0
         try clear hfz8_1
         obtain ⟨x8_1, x9_1, x27_1, rfl, HA, HK1, HO_6, HO_8, HO_9, BK112, HB⟩ := hrel
         cases gk with
         | zero => exact absurd HA.out (by simp [faces_Of.l0])
         | succ k1 =>
           have H := HA.out
           clear HA
           simp only [faces_Of.l0] at H
           by_cases c13 : x27_1 < (t113.length : Int)
           · rw [if_pos c13] at H
             have c13b0 : decide (x27_1 < (t113.length : Int)) = true := decide_eq_true c13
             clear c13
             have H' := Aside0.mk H
             clear H
             go_wp2
             go_loopg [11, 12] k1 (fun kq v11 v12 w' => ∃ (x8_2 : List Bool) (x11_2 : List Int) (x12_2 : Int), v12 = .int .i64 x12_2 ∧ Aside0 (faces_Of.l1 kq t113 x8_2 x9_1 x11_2 x12_2 (t113.length : Int) x27_1 = some (r1, r2)) ∧ Aside0 (kq ≤ k1) ∧ Aside0 (Kd.R (Kd.int .i64) 3 w' w.heap.size (fun k_ => some k_ ≠ (v11 : Value).ownBlock) (.slice Ao10 t113.length co10) t113) ∧ Aside0 (Kd.R Kd.bool 4 w' w.heap.size (fun _ => True) v118 x8_2) ∧ Aside0 (Kd.S (Kd.slice 3 (Kd.int .i64)) 36 w' w.heap.size (fun k_ => some k_ ≠ ((.slice Ao10 t113.length co10) : Value).ownBlock ∧ some k_ ≠ (v11 : Value).ownBlock) u9 x9_1) ∧ Aside0 (Kd.R (Kd.int .i64) 3 w' w.heap.size (fun k_ => some k_ ≠ ((.slice Ao10 t113.length co10) : Value).ownBlock) v11 x11_2) ∧ Aside0 (w'.heap[gb112]? = some (.cells #[.int .i64 a0_0, (.slice A0_1 l0_1.length c0_1)] 24 (0, 0))) ∧ Aside0 (Below w.heap.size w w'))
             case atStart => exact ⟨(x8_1), (([] : List Int)), (x27_1), (by first | rfl | (simp; done) | (simp [*]; done)), H', ⟨Nat.le_refl _⟩, ⟨by (with_reducible repeat (first | apply Kd.R_alloc | apply Kd.R_drewN | apply Kd.R_drew)); exact Kd.R_mono HO_6.out (fun _ hk => (by simp [Value.ownBlock]))⟩, ⟨by (with_reducible repeat (first | apply Kd.R_alloc | apply Kd.R_drewN | apply Kd.R_drew)); exact HO_8.out⟩, ⟨by (with_reducible repeat (first | apply Kd.S_alloc | apply Kd.S_drewN | apply Kd.S_drew)); exact Kd.S_mono HO_9.out (fun _ hk => ⟨hk, (by simp [Value.ownBlock])⟩)⟩, ⟨by first | exact Kd.R_nil _ _ _ _ _ | exact Kd.N_nil _ _ _ _ _ | exact Kd.V_nil _ _ _ _ _ | exact Kd.Q_nil _ _ _ _ _ | exact Kd.S_nil _ _ _ _ _⟩, ⟨by (with_reducible repeat (first | refine blk_drewN ?_ _ | refine blk_drew ?_ | refine blk_alloc ?_ _)); exact BK112.out⟩, ⟨by repeat (first | (with_reducible first | exact HB.out | apply below_alloc | apply pw_below_drewN | apply below_drew1 | refine below_set ?_ GE112.out) | exact HB.out)⟩⟩
             case round =>
               clear H'
               try clear c1
               try clear c2
               try clear p2
               try clear c4
               try clear c4b0
               try clear c4b1
               try clear c5
               try clear c5b0
               try clear c5b1
               try clear c6
               try clear c6b0
               try clear c6b1
               try clear c10
               try clear c13
               try clear c13b0
               try clear hcz8_0
               try clear hcz8_1
               try clear hfz8_0
               try clear hfz8_1
               try clear p2
               obtain ⟨x8_2, x11_2, x12_2, rfl, HA, HK2, HO_6, HO_8, HO_9, HO_11, BK112, HB⟩ := hrel
               cases gk with
               | zero => exact absurd HA.out (by simp [faces_Of.l1])
               | succ k2 =>
                 have H := HA.out
                 clear HA
                 simp only [faces_Of.l1] at H
                 by_cases c14 : 0 ≤ x12_2
                 · rw [if_pos c14] at H
                   have c14b0 : decide (0 ≤ x12_2) = true := decide_eq_true c14
                   clear c14
                   by_cases c15 : x12_2 < (x8_2.length : Int)
                   · rw [if_pos c15] at H
                     have c15b0 : decide (x12_2 < (x8_2.length : Int)) = true := decide_eq_true c15
                     clear c15
                     obtain ⟨bq16, hbq16⟩ : ∃ b_ : Bool, b_ = (rdOf false x8_2 x12_2) := ⟨_, rfl⟩
                     replace H : (if bq16 = true then (if (x11_2.length : Int) > 0 then (if x9_1.length < 5864062014805 then (faces_Of.l0 k2 t113 x8_2 (x9_1 ++ [x11_2]) (t113.length : Int) (wrap64 (x27_1 + 1))) else (none)) else (faces_Of.l0 k2 t113 x8_2 x9_1 (t113.length : Int) (wrap64 (x27_1 + 1)))) else (if x11_2.length < 17592186044416 then (if 0 ≤ (Go.bits .xor .i64 x12_2 1) then (if (Go.bits .xor .i64 x12_2 1) < (t113.length : Int) then (faces_Of.l1 k2 t113 (x8_2.set (x12_2 : Int).toNat true) x9_1 (x11_2 ++ [x12_2]) (rd t113 (Go.bits .xor .i64 x12_2 1)) (t113.length : Int) x27_1) else (none)) else (none)) else (none))) = some (r1, r2) := by rw [← hbq16] at H; exact H
                     have Nbq16 := Aside0.mk hbq16
                     clear hbq16
                     by_cases c17 : bq16 = true
                     · subst c17
                       have H1 : (if (x11_2.length : Int) > 0 then (if x9_1.length < 5864062014805 then (faces_Of.l0 k2 t113 x8_2 (x9_1 ++ [x11_2]) (t113.length : Int) (wrap64 (x27_1 + 1))) else (none)) else (faces_Of.l0 k2 t113 x8_2 x9_1 (t113.length : Int) (wrap64 (x27_1 + 1)))) = some (r1, r2) := by rw [if_pos rfl] at H; exact H
                       clear H
                       have H := H1
                       clear H1
                       by_cases c18 : (x11_2.length : Int) > 0
                       · rw [if_pos c18] at H
                         have c18b0 : decide (0 < (x11_2.length : Int)) = true := decide_eq_true c18
                         have c18b1 : decide (0 < x11_2.length) = true := decide_eq_true (by omega)
                         clear c18
                         by_cases c19 : x9_1.length < 5864062014805
                         · rw [if_pos c19] at H
                           have LMc19 := Aside0.mk c19
                           clear c19
                           obtain ⟨y121, hy121⟩ : ∃ y_ : List (List Int), y_ = (x9_1 ++ [x11_2]) := ⟨_, rfl⟩
                           replace H : (faces_Of.l0 k2 t113 x8_2 y121 (t113.length : Int) (wrap64 (x27_1 + 1))) = some (r1, r2) := by first | (rw [hy121]; with_reducible exact H) | (have H2_ := (Option.bind_some _ _).symm.trans H; rw [hy121]; with_reducible exact H2_) | (have H2_ := (Option.bind_some _ _).symm.trans H; with_reducible exact H2_) | with_reducible exact H | (rw [hy121]; exact H) | exact H
                           have Ny121 := Aside0.mk hy121
                           clear hy121
                           have H' := Aside0.mk H
                           clear H
                           obtain ⟨Ao20, co20, eo20⟩ := Kd.R_slice HO_8.out
                           subst eo20
                           have p120 : 0 ≤ (x12_2 : Int) := of_decide_eq_true (by first | (with_reducible assumption) | assumption)
                           have q120 : x12_2 < (x8_2.length : Int) := of_decide_eq_true (by first | (with_reducible assumption) | assumption)
                           obtain ⟨ad120, e120, hx120_0⟩ := Kd.at_bool (Kd.R_reads' HO_8.out).2.2 x12_2 p120 q120
                           (try rw [← Nbq16.out] at hx120_0)
                           cases e120
                           replace p120 := eq_true p120
                           replace q120 := eq_true q120
                           obtain ⟨Ao21, co21, eo21⟩ := Kd.R_slice HO_11.out
                           subst eo21
                           go_wp2_with (first | ((with_reducible refine gate_builtin (b := .append) (xs := #[.tmp 51, .tmp 53]) rfl ?_); at_builtin; refine Kd.S_append (Kd.slice 3 (Kd.int .i64)) (w0 := w) w.heap.size rfl (.tmp 51) (.tmp 53) 25 36 (.slice none 0 0) 24 rfl Try.underlying25 info36 rfl (by decide) (by omega) u9 x9_1 x11_2 [.slice Ao21 x11_2.length co21] (fun k_ => some k_ ≠ (.slice Ao10 t113.length co10 : Value).ownBlock) (fun k_ => some k_ = (.slice Ao21 x11_2.length co21 : Value).ownBlock) rfl rfl ?aP (fun k_ hk_ => ((Kd.R_mono (ok' := fun k_ => ((fun k_ => some k_ ≠ (.slice Ao10 t113.length co10 : Value).ownBlock)) k_ ∧ some k_ ≠ (u9 : Value).ownBlock) (Kd.R_apart' (HO_11.out) (Kd.S_typed HO_9.out) (by decide)) (fun k_ hk => ⟨hk.1, hk.2⟩))).1 k_ hk_.symm) ?aF ?aO ?aB ?aS ?aL ?_; (case aP => exact Kd.M_row (Kd.R_mono (Kd.R_tight rfl (Kd.R_mono (ok' := fun k_ => ((fun k_ => some k_ ≠ (.slice Ao10 t113.length co10 : Value).ownBlock)) k_ ∧ some k_ ≠ (u9 : Value).ownBlock) (Kd.R_apart' (HO_11.out) (Kd.S_typed HO_9.out) (by decide)) (fun k_ hk => ⟨hk.1, hk.2⟩))) (fun _ h_ => h_))); (case aB => exact (by repeat (first | (with_reducible first | exact HB.out | apply below_alloc | apply pw_below_drewN | apply below_drew1 | refine below_set ?_ GE112.out) | exact HB.out))); (case aF => exact (fun k_ hk => Kd.fresh' (Kd.R_lt (by (with_reducible repeat (first | apply Kd.R_alloc | apply Kd.R_drewN | apply Kd.R_drew)); exact HO_6.out)) k_ hk)); (case aO => exact (by (with_reducible repeat (first | apply Kd.S_alloc | apply Kd.S_drewN | apply Kd.S_drew)); exact Kd.S_mono HO_9.out (fun k_ hk => ⟨hk.1, fun e_ => hk.2 e_⟩))); (case aS => exact (below_size (by repeat (first | (with_reducible first | exact HB.out | apply below_alloc | apply pw_below_drewN | apply below_drew1 | refine below_set ?_ GE112.out) | exact HB.out)))); (case aL => have := LMc19.out; omega); intro v122 w22 ho hb hg hat; rw [← Ny121.out] at ho; have n0_ := Aside0.mk (Kd.R_over' (by (with_reducible repeat (first | apply Kd.R_alloc | apply Kd.R_drewN | apply Kd.R_drew)); exact HO_6.out) (Kd.S_typed (by (with_reducible repeat (first | apply Kd.S_alloc | apply Kd.S_drewN | apply Kd.S_drew)); exact HO_9.out)) (by decide) hg); have n1_ := Aside0.mk (Kd.R_over' (by (with_reducible repeat (first | apply Kd.R_alloc | apply Kd.R_drewN | apply Kd.R_drew)); exact HO_8.out) (Kd.S_typed (by (with_reducible repeat (first | apply Kd.S_alloc | apply Kd.S_drewN | apply Kd.S_drew)); exact HO_9.out)) (by decide) hg); have n2_ := Aside0.mk (blk_grown (g := gb112) (o := .cells #[.int .i64 a0_0, .slice A0_1 l0_1.length c0_1] 24 (0, 0)) (by (with_reducible repeat (first | refine blk_drewN ?_ _ | refine blk_drew ?_ | refine blk_alloc ?_ _)); exact BK112.out) hg (Kd.S_ne HO_9.out BK112.out (by decide))); have n3_ := Aside0.mk (hb); have n4_ := Aside0.mk (ho); clear HO_6; clear HO_8; clear BK112; clear HB; clear HO_9; clear HO_11; have HO_6 := n0_; have HO_8 := n1_; have BK112 := n2_; have HB := n3_; have HO123 := n4_; clear n0_ n1_ n2_ n3_ n4_; clear ho hb hg hat))
                           go_roundg k2
                           case measure => have := HK1.out; have := HK2.out; omega
                           case rel => exact ⟨(x8_2), (y121), (wrap64 (x27_1 + 1)), (by first | rfl | (simp; done) | (simp [*]; done)), H', ⟨by have := HK1.out; have := HK2.out; omega⟩, ⟨by (with_reducible repeat (first | apply Kd.R_alloc | apply Kd.R_drewN | apply Kd.R_drew)); exact Kd.R_mono HO_6.out (fun _ hk => trivial)⟩, ⟨by (with_reducible repeat (first | apply Kd.R_alloc | apply Kd.R_drewN | apply Kd.R_drew)); exact HO_8.out⟩, ⟨by (with_reducible repeat (first | apply Kd.S_alloc | apply Kd.S_drewN | apply Kd.S_drew)); exact HO123.out⟩, ⟨by (with_reducible repeat (first | refine blk_drewN ?_ _ | refine blk_drew ?_ | refine blk_alloc ?_ _)); exact BK112.out⟩, ⟨by repeat (first | (with_reducible first | exact HB.out | apply below_alloc | apply pw_below_drewN | apply below_drew1 | refine below_set ?_ GE112.out) | exact HB.out)⟩⟩
                         · rw [if_neg c19] at H
                           exact absurd H (by simp)
                       · rw [if_neg c18] at H
                         have c18b0 : decide (0 < (x11_2.length : Int)) = false := decide_eq_false c18
                         have c18b1 : decide (0 < x11_2.length) = false := decide_eq_false (by omega)
                         clear c18
                         have H' := Aside0.mk H
                         clear H
                         obtain ⟨Ao23, co23, eo23⟩ := Kd.R_slice HO_8.out
                         subst eo23
                         have p120 : 0 ≤ (x12_2 : Int) := of_decide_eq_true (by first | (with_reducible assumption) | assumption)
                         have q120 : x12_2 < (x8_2.length : Int) := of_decide_eq_true (by first | (with_reducible assumption) | assumption)
                         obtain ⟨ad120, e120, hx120_0⟩ := Kd.at_bool (Kd.R_reads' HO_8.out).2.2 x12_2 p120 q120
                         (try rw [← Nbq16.out] at hx120_0)
                         cases e120
                         replace p120 := eq_true p120
                         replace q120 := eq_true q120
                         obtain ⟨Ao24, co24, eo24⟩ := Kd.R_slice HO_11.out
                         subst eo24
                         go_wp2
                         go_roundg k2
                         case measure => have := HK1.out; have := HK2.out; omega
                         case rel => exact ⟨(x8_2), (x9_1), (wrap64 (x27_1 + 1)), (by first | rfl | (simp; done) | (simp [*]; done)), H', ⟨by have := HK1.out; have := HK2.out; omega⟩, ⟨by (with_reducible repeat (first | apply Kd.R_alloc | apply Kd.R_drewN | apply Kd.R_drew)); exact Kd.R_mono HO_6.out (fun _ hk => trivial)⟩, ⟨by (with_reducible repeat (first | apply Kd.R_alloc | apply Kd.R_drewN | apply Kd.R_drew)); exact HO_8.out⟩, ⟨by (with_reducible repeat (first | apply Kd.S_alloc | apply Kd.S_drewN | apply Kd.S_drew)); exact Kd.S_mono HO_9.out (fun _ hk => hk.1)⟩, ⟨by (with_reducible repeat (first | refine blk_drewN ?_ _ | refine blk_drew ?_ | refine blk_alloc ?_ _)); exact BK112.out⟩, ⟨by repeat (first | (with_reducible first | exact HB.out | apply below_alloc | apply pw_below_drewN | apply below_drew1 | refine below_set ?_ GE112.out) | exact HB.out)⟩⟩
                     · replace c17 := Bool.eq_false_iff.mpr c17
                       subst c17
                       have H1 : (if x11_2.length < 17592186044416 then (if 0 ≤ (Go.bits .xor .i64 x12_2 1) then (if (Go.bits .xor .i64 x12_2 1) < (t113.length : Int) then (faces_Of.l1 k2 t113 (x8_2.set (x12_2 : Int).toNat true) x9_1 (x11_2 ++ [x12_2]) (rd t113 (Go.bits .xor .i64 x12_2 1)) (t113.length : Int) x27_1) else (none)) else (none)) else (none)) = some (r1, r2) := by rw [if_neg (show ¬ (false = true) by decide)] at H; exact H
                       clear H
                       have H := H1
                       clear H1
                       obtain ⟨y124, hy124⟩ : ∃ y_ : List Bool, y_ = (x8_2.set (x12_2 : Int).toNat true) := ⟨_, rfl⟩
                       replace H : (if x11_2.length < 17592186044416 then (if 0 ≤ (Go.bits .xor .i64 x12_2 1) then (if (Go.bits .xor .i64 x12_2 1) < (t113.length : Int) then (faces_Of.l1 k2 t113 y124 x9_1 (x11_2 ++ [x12_2]) (rd t113 (Go.bits .xor .i64 x12_2 1)) (t113.length : Int) x27_1) else (none)) else (none)) else (none)) = some (r1, r2) := by first | (rw [hy124]; with_reducible exact H) | (have H2_ := (Option.bind_some _ _).symm.trans H; rw [hy124]; with_reducible exact H2_) | (have H2_ := (Option.bind_some _ _).symm.trans H; with_reducible exact H2_) | with_reducible exact H | (rw [hy124]; exact H) | exact H
                       have Ny124 := Aside0.mk hy124
                       clear hy124
                       by_cases c26 : x11_2.length < 17592186044416
                       · rw [if_pos c26] at H
                         have LMc26 := Aside0.mk c26
                         clear c26
                         obtain ⟨y125, hy125⟩ : ∃ y_ : List Int, y_ = (x11_2 ++ [x12_2]) := ⟨_, rfl⟩
                         replace H : (if 0 ≤ (Go.bits .xor .i64 x12_2 1) then (if (Go.bits .xor .i64 x12_2 1) < (t113.length : Int) then (faces_Of.l1 k2 t113 y124 x9_1 y125 (rd t113 (Go.bits .xor .i64 x12_2 1)) (t113.length : Int) x27_1) else (none)) else (none)) = some (r1, r2) := by first | (rw [hy125]; with_reducible exact H) | (have H2_ := (Option.bind_some _ _).symm.trans H; rw [hy125]; with_reducible exact H2_) | (have H2_ := (Option.bind_some _ _).symm.trans H; with_reducible exact H2_) | with_reducible exact H | (rw [hy125]; exact H) | exact H
                         have Ny125 := Aside0.mk hy125
                         clear hy125
                         by_cases c27 : 0 ≤ (Go.bits .xor .i64 x12_2 1)
                         · rw [if_pos c27] at H
                           have c27b0 : decide (0 ≤ (Go.bits .xor .i64 x12_2 1)) = true := decide_eq_true c27
                           clear c27
                           by_cases c28 : (Go.bits .xor .i64 x12_2 1) < (t113.length : Int)
                           · rw [if_pos c28] at H
                             have c28b0 : decide ((Go.bits .xor .i64 x12_2 1) < (t113.length : Int)) = true := decide_eq_true c28
                             clear c28
                             have H' := Aside0.mk H
                             clear H
                             obtain ⟨Ao29, co29, eo29⟩ := Kd.R_slice HO_8.out
                             subst eo29
                             have p120 : 0 ≤ (x12_2 : Int) := of_decide_eq_true (by first | (with_reducible assumption) | assumption)
                             have q120 : x12_2 < (x8_2.length : Int) := of_decide_eq_true (by first | (with_reducible assumption) | assumption)
                             obtain ⟨ad120, e120, hx120_0⟩ := Kd.at_bool (Kd.R_reads' HO_8.out).2.2 x12_2 p120 q120
                             (try rw [← Nbq16.out] at hx120_0)
                             cases e120
                             replace p120 := eq_true p120
                             replace q120 := eq_true q120
                             have p25 : 0 ≤ (x12_2 : Int) := of_decide_eq_true (by first | (with_reducible assumption) | assumption)
                             have q25 : (x12_2 : Int) < ((x8_2.length : Int) : Int) := of_decide_eq_true (by first | (with_reducible assumption) | assumption)
                             obtain ⟨go25, co25, eo25, gb25, gl25, cl25, HG25⟩ := Kd.R_form HO_8.out (by omega)
                             (first | cases eo25 | (injection eo25 with ea_ en_ ec_; (first | subst ea_ | (injection ea_ with ea_; subst ea_)); subst ec_; clear en_))
                             have GB25 := Aside0.mk gb25
                             have GG25 := Aside0.mk HG25
                             clear gb25 gl25 HG25
                             (first | simp only [add_plain] at hx120_0 | skip)
                             obtain ⟨hx25_0, hf25_0⟩ := Kd.R_celln false HO_8.out (x12_2 : Int) p25 q25
                             replace p25 := eq_true p25
                             replace q25 := eq_true q25
                             have HP30 := Kd.R_putg HO_8.out (x12_2 : Int) true
                             go_wp2_with (first | ((with_reducible refine gate_store (t := 4) (p := 43) rfl ?_); refine store_event (t := 4) (p := 43) (v := ?vo_w31) (w1 := (wr.setCell ⟨go25, (x12_2 : Int).toNat, none⟩ (.bool true))) ?hg ?ho ?hn ?hr ?_; (case ho => rfl); (case hg => rfl); (case hn => rfl); (case hr => first | (go_simp; done) | (go_simp; rfl)); intro w31 hw; have hg : wr.grownBy w31 (some go25) := (by rw [hw]; exact HP30.2); have hp_ : Kd.R Kd.bool 4 w31 w.heap.size (fun _ => True) (.slice (some ⟨go25, 0, none⟩) x8_2.length co29) y124 := (by rw [hw, Ny124.out]; exact HP30.1); clear HP30; have n0_ := Aside0.mk (Kd.R_over' (v := (.slice (some ⟨go25, 0, none⟩) x8_2.length co29)) (by (with_reducible repeat (first | apply Kd.R_alloc | apply Kd.R_drewN | apply Kd.R_drew)); exact HO_6.out) (Kd.R_typed HO_8.out) (by decide) hg); have n1_ := Aside0.mk (hp_); have n2_ := Aside0.mk (Kd.S_over' (v := (.slice (some ⟨go25, 0, none⟩) x8_2.length co29)) (by (with_reducible repeat (first | apply Kd.S_alloc | apply Kd.S_drewN | apply Kd.S_drew)); exact HO_9.out) (Kd.R_typed HO_8.out) (by decide) hg); have n3_ := Aside0.mk (Kd.R_over' (v := (.slice (some ⟨go25, 0, none⟩) x8_2.length co29)) (by (with_reducible repeat (first | apply Kd.R_alloc | apply Kd.R_drewN | apply Kd.R_drew)); exact HO_11.out) (Kd.R_typed HO_8.out) (by decide) hg); have n4_ := Aside0.mk (blk_grown (g := gb112) (o := .cells #[.int .i64 a0_0, .slice A0_1 l0_1.length c0_1] 24 (0, 0)) (by (with_reducible repeat (first | refine blk_drewN ?_ _ | refine blk_drew ?_ | refine blk_alloc ?_ _)); exact BK112.out) hg (Kd.R_ne HO_8.out BK112.out (by decide))); have n5_ := Aside0.mk ((by rw [hw]; exact below_set (HB.out) GB25.out : Below w.heap.size w w31)); clear HO_6; clear HO_8; clear HO_9; clear HO_11; clear BK112; clear HB; have HO_6 := n0_; have HO_8 := n1_; have HO_9 := n2_; have HO_11 := n3_; have BK112 := n4_; have HB := n5_; clear n0_ n1_ n2_ n3_ n4_ n5_; clear hg hw hp_) | ((with_reducible refine gate_builtin (b := .append) (xs := #[.tmp 44, .tmp 46]) rfl ?_); at_builtin; refine Kd.R_append (Kd.int .i64) (w0 := w) w.heap.size rfl (.tmp 44) (.tmp 46) 36 3 (.int .i64 0) 8 rfl Try.underlying36 info3 rfl (by decide) (by omega) u11 x11_2 x12_2 [.int .i64 x12_2] (fun k_ => some k_ ≠ (.slice Ao10 t113.length co10 : Value).ownBlock) (fun _ => False) rfl rfl ?aP (fun _ hk => hk.elim) ?aF ?aO ?aB ?aS ?aL ?_; (case aP => exact rfl); (case aB => exact (by repeat (first | (with_reducible first | exact HB.out | apply below_alloc | apply pw_below_drewN | apply below_drew1 | refine below_set ?_ GE112.out) | exact HB.out))); (case aF => exact (fun k_ hk => Kd.fresh' (Kd.R_lt (by (with_reducible repeat (first | apply Kd.R_alloc | apply Kd.R_drewN | apply Kd.R_drew)); exact HO_6.out)) k_ hk)); (case aO => exact (by (with_reducible repeat (first | apply Kd.R_alloc | apply Kd.R_drewN | apply Kd.R_drew)); exact HO_11.out)); (case aS => exact (below_size (by repeat (first | (with_reducible first | exact HB.out | apply below_alloc | apply pw_below_drewN | apply below_drew1 | refine below_set ?_ GE112.out) | exact HB.out)))); (case aL => have := LMc26.out; omega); intro v126 w32 ho hb hg hat; rw [← Ny125.out] at ho; have n0_ := Aside0.mk (Kd.R_after (ok := (fun _ => True)) (by (with_reducible repeat (first | apply Kd.R_alloc | apply Kd.R_drewN | apply Kd.R_drew)); exact Kd.R_mono HO_6.out (fun _ hk => ⟨trivial, hk⟩)) hg hat); have n1_ := Aside0.mk (Kd.R_over' (by (with_reducible repeat (first | apply Kd.R_alloc | apply Kd.R_drewN | apply Kd.R_drew)); exact HO_8.out) (Kd.R_typed (by (with_reducible repeat (first | apply Kd.R_alloc | apply Kd.R_drewN | apply Kd.R_drew)); exact HO_11.out)) (by decide) hg); have n2_ := Aside0.mk (Kd.S_after (ok := (fun k_ => some k_ ≠ (.slice Ao10 t113.length co10 : Value).ownBlock)) (by (with_reducible repeat (first | apply Kd.S_alloc | apply Kd.S_drewN | apply Kd.S_drew)); exact HO_9.out) hg hat); have n3_ := Aside0.mk (blk_grown (g := gb112) (o := .cells #[.int .i64 a0_0, .slice A0_1 l0_1.length c0_1] 24 (0, 0)) (by (with_reducible repeat (first | refine blk_drewN ?_ _ | refine blk_drew ?_ | refine blk_alloc ?_ _)); exact BK112.out) hg (Kd.R_ne HO_11.out BK112.out (by decide))); have n4_ := Aside0.mk (hb); have n5_ := Aside0.mk (ho); clear HO_6; clear HO_8; clear HO_9; clear BK112; clear HB; clear HO_11; have HO_6 := n0_; have HO_8 := n1_; have HO_9 := n2_; have BK112 := n3_; have HB := n4_; have HO127 := n5_; clear n0_ n1_ n2_ n3_ n4_ n5_; clear ho hb hg hat; have p128 : 0 ≤ ((Go.bits .xor .i64 x12_2 1) : Int) := of_decide_eq_true (by first | (with_reducible assumption) | assumption); have q128 : (Go.bits .xor .i64 x12_2 1) < (t113.length : Int) := of_decide_eq_true (by first | (with_reducible assumption) | assumption); obtain ⟨ad128, e128, hx128_0⟩ := Kd.at_int (Kd.R_reads' HO_6.out).2.2 (Go.bits .xor .i64 x12_2 1) p128 q128; cases e128; replace p128 := eq_true p128; replace q128 := eq_true q128))
                             go_roundg k2
                             case measure => have := HK1.out; have := HK2.out; omega
                             case rel => exact ⟨(y124), (y125), (rd t113 (Go.bits .xor .i64 x12_2 1)), (by first | rfl | (simp; done) | (simp [*]; done)), H', ⟨by have := HK1.out; have := HK2.out; omega⟩, ⟨by (with_reducible repeat (first | apply Kd.R_alloc | apply Kd.R_drewN | apply Kd.R_drew)); exact Kd.R_mono HO_6.out (fun _ hk => hk.2)⟩, ⟨by (with_reducible repeat (first | apply Kd.R_alloc | apply Kd.R_drewN | apply Kd.R_drew)); exact HO_8.out⟩, ⟨by (with_reducible repeat (first | apply Kd.S_alloc | apply Kd.S_drewN | apply Kd.S_drew)); exact HO_9.out⟩, ⟨by (with_reducible repeat (first | apply Kd.R_alloc | apply Kd.R_drewN | apply Kd.R_drew)); exact HO127.out⟩, ⟨by (with_reducible repeat (first | refine blk_drewN ?_ _ | refine blk_drew ?_ | refine blk_alloc ?_ _)); exact BK112.out⟩, ⟨by repeat (first | (with_reducible first | exact HB.out | apply below_alloc | apply pw_below_drewN | apply below_drew1 | refine below_set ?_ GE112.out) | exact HB.out)⟩⟩
                           · rw [if_neg c28] at H
                             exact absurd H (by simp)
                         · rw [if_neg c27] at H
                           exact absurd H (by simp)
                       · rw [if_neg c26] at H
                         exact absurd H (by simp)
                   · rw [if_neg c15] at H
                     exact absurd H (by simp)
                 · rw [if_neg c14] at H
                   exact absurd H (by simp)
           · rw [if_neg c13] at H
             have c13b0 : decide (x27_1 < (t113.length : Int)) = false := decide_eq_false c13
             clear c13
             simp only [Option.some.injEq, Prod.mk.injEq] at H
             obtain ⟨rfl, rfl⟩ := H
             go_wp2
             go_ret2
             exact ⟨_, by first | rfl | (simp [errW_none, errW_some] <;> rfl) | (simp [*, errW_none, errW_some] <;> rfl), by (with_reducible repeat (first | apply Kd.S_alloc | apply Kd.S_drewN | apply Kd.S_drew)); exact Kd.S_mono HO_9.out (fun _ hk => trivial), by repeat (first | (with_reducible first | exact HB.out | apply below_alloc | apply pw_below_drewN | apply below_drew1 | refine below_set ?_ GE112.out) | exact HB.out)⟩
     · rw [if_neg c6] at H
       exact absurd H (by simp)
   · rw [if_neg c5] at H
     exact absurd H (by simp)
 · rw [if_neg c4] at H
   have c4b0 : (t116 == 0) = false := beq_eq_false_iff_ne.mpr c4
   have c4b1 : (t116 != 0) = true := bne_iff_ne.mpr c4
   simp only [Option.some.injEq, Prod.mk.injEq] at H
   obtain ⟨rfl, rfl⟩ := H
   go_enter Try.func10, Try.ntmps10
   go_wp2_with (first | ((with_reducible refine gate_dst (N := 2) rfl ?_); refine box_event ?hg (N := 2) ?hd (cs := #[.int .i64 a0_0, .slice A0_1 l0_1.length c0_1]) (t := 24) ?hr ?_; (case hd => rfl); (case hg => rfl); (case hr => first | (go_simp; done) | (go_simp; rfl)); intro gb112 hg w33 hbox hb; have n0_ := Aside0.mk (below_step (by repeat (first | (with_reducible first | exact HB.out | apply below_alloc | apply pw_below_drewN | apply below_drew1) | exact HB.out)) hb); have n1_ := Aside0.mk (hbox); have n2_ := Aside0.mk ((by rw [hg]; exact (below_size (by repeat (first | (with_reducible first | exact HB.out | apply below_alloc | apply pw_below_drewN | apply below_drew1) | exact HB.out))) : w.heap.size ≤ gb112)); have n3_ := Aside0.mk ((by rw [hg]; exact (below_size (by repeat (first | (with_reducible first | exact HB.out | apply below_alloc | apply pw_below_drewN | apply below_drew1) | exact HB.out))) : w.heap.size ≤ gb112)); clear HB; have HB := n0_; have BK112 := n1_; have GW112 := n2_; have GE112 := n3_; clear n0_ n1_ n2_ n3_; clear hb hbox hg; have hcz34_0 : w33.cell? ⟨gb112, 0, none⟩ = some (.int .i64 a0_0) := (blk_cell BK112.out 0).trans rfl; have hcz34_1 : w33.cell? ⟨gb112, 1, none⟩ = some (.slice A0_1 l0_1.length c0_1) := (blk_cell BK112.out 1).trans rfl; have hfz34_0 := blk_frozen BK112.out 0; have hfz34_1 := blk_frozen BK112.out 1) | ((with_reducible refine gate_callee (f := 22) rfl ?_); refine goesL_ (some 16) rfl rfl Try.func22 (by kernel_rfl) rfl #[.agg #[.int .i64 a0_0, .slice A0_1 l0_1.length c0_1], .slice A1 l1.length c1] rfl (by (try simp only [List.map_toArray, List.map_cons, List.map_nil]); first | done | rfl | (simp only [List.length_drop, List.length_take]; rfl)) ?_; (with_reducible refine (rot_Next.calls k a0_0 _ _ l0_1 _ _ l1 t113 t116 _ ?side1 ?side2 ?side3 ?side4 A3.out).mono ?_); (case side1 => repeat (first | exact (Kd.C_below HR0_1.out HB.out) | (with_reducible refine Kd.C_alloc ?_ _) | (with_reducible refine Kd.C_drewN ?_ _) | (with_reducible refine Kd.C_drew ?_))); (case side2 => exact HC0_1.out); (case side3 => repeat (first | exact (Kd.C_below HR1.out HB.out) | (with_reducible refine Kd.C_alloc ?_ _) | (with_reducible refine Kd.C_drewN ?_ _) | (with_reducible refine Kd.C_drew ?_))); (case side4 => exact HC1.out); rintro e w35 ⟨v114, rfl, ho0, hb⟩; refine ⟨_, rfl, ?_⟩; have n0_ := Aside0.mk (Kd.R_lower ho0 (below_size (by repeat (first | (with_reducible first | exact HB.out | apply below_alloc | apply pw_below_drewN | apply below_drew1 | refine below_set ?_ GE112.out) | exact HB.out)))); have n1_ := Aside0.mk (blk_below (g := gb112) (o := .cells #[.int .i64 a0_0, .slice A0_1 l0_1.length c0_1] 24 (0, 0)) (by (with_reducible repeat (first | refine blk_drewN ?_ _ | refine blk_drew ?_ | refine blk_alloc ?_ _)); exact BK112.out) hb); have n2_ := Aside0.mk (below_step (by repeat (first | (with_reducible first | exact HB.out | apply below_alloc | apply pw_below_drewN | apply below_drew1 | refine below_set ?_ GE112.out) | exact HB.out)) hb); clear BK112; clear HB; have HO115 := n0_; have BK112 := n1_; have HB := n2_; clear n0_ n1_ n2_; (try clear hb); (try clear hb2); (try clear hk); (try clear hi); (try clear ho0)))
   go_ret2
   exact ⟨_, by first | rfl | (simp [errW_none, errW_some] <;> rfl) | (simp [*, errW_none, errW_some] <;> rfl), by first | exact Kd.S_nil _ _ _ _ _ | exact Kd.N_nil _ _ _ _ _ | exact Kd.V_nil _ _ _ _ _ | exact Kd.Q_nil _ _ _ _ _ | exact Kd.R_nil _ _ _ _ _, by repeat (first | (with_reducible first | exact HB.out | apply below_alloc | apply pw_below_drewN | apply below_drew1 | refine below_set ?_ GE112.out) | exact HB.out)⟩
end Go.Proofs.Ytmikcfddipldnaa.GAll
namespace Go.Proofs.Ytmikcfddipldnaa.GAll
open Go.RowKit Go.Proofs.YtmikcfddipldnaaW.PrintWords Go.Proofs.YtmikcfddipldnaaW.PrintLast Go.Proofs.YtmikcfddipldnaaW.PrintMore
attribute [local go_sem] max2_int min2_int max_two min_two max_three min_three max_four min_four   -- for this text's walks alone
set_option linter.unusedVariables false
set_option linter.unusedSimpArgs false
def faces_Left.f (k : Nat) (a0_0 : Int) (l0_1 : List S56) (l1 : List (List Int)) : Option (List Int × Int) := (faces_Of.f k a0_0 l0_1 l1).bind fun t => if t.2 = 0 then (if Face.fitL t.1 l0_1.length = true then some (Face.leftL t.1 (2 * l0_1.length), 0) else none) else some ([], t.2)
theorem faces_Left.mono : ∀ a0 a1 a2 k, LeO (faces_Left.f k a0 a1 a2) (faces_Left.f (k + 1) a0 a1 a2) := by
 intro a0 a1 a2 k
 unfold faces_Left.f
 exact LeO.bind (faces_Of.mono _ _ _ _) (fun _ => LeO.refl _)
theorem faces_Left.calls (k : Nat) (a0_0 : Int) (A0_1 : Option Addr) (c0_1 : Nat) (l0_1 : List (S56)) (A1 : Option Addr) (c1 : Nat) (l1 : List (List Int)) (r1 : List Int) (r2 : Int) (w : World) (hr0_1 : Kd.C k56 w A0_1 l0_1.length l0_1) (hc0_1 : l0_1.length ≤ c0_1) (hr1 : Kd.C (Kd.slice 3 (Kd.int .i64)) w A1 l1.length l1) (hc1 : l1.length ≤ c1) (h : faces_Left.f k a0_0 l0_1 l1 = some (r1, r2)) :
   Calls Try.prog 15 #[.agg #[.int .i64 a0_0, .slice A0_1 l0_1.length c0_1], .slice A1 l1.length c1] w fun e w' => ∃ v0_ : Value, e = .returned (.tuple #[v0_, .int .i64 r2]) ∧ Kd.R (Kd.int .i64) 3 w' w.heap.size (fun _ => True) v0_ r1 ∧ Below w.heap.size w w' := by
 obtain ⟨⟨fs, e0⟩, ht, h⟩ := Option.bind_eq_some_iff.mp h
 have hof : Face.OfSaysL fs e0 a0_0 A0_1 l0_1.length c0_1 A1 l1.length c1 w := fun W hW => (faces_Of.calls k a0_0 A0_1 c0_1 l0_1 A1 c1 l1 fs e0 W (Kd.C_below hr0_1 hW) hc0_1 (Kd.C_below hr1 hW) hc1 ht).mono fun e w' ⟨v, h1, h2, h3⟩ => ⟨v, h1, Kd.S_R h2, h3⟩
 by_cases he : e0 = 0
 · subst he
   rw [if_pos rfl] at h
   by_cases hf : Face.fitL fs l0_1.length = true
   · rw [if_pos hf] at h
     obtain ⟨rfl, rfl⟩ : Face.leftL fs (2 * l0_1.length) = r1 ∧ 0 = r2 := by simpa using h
     exact Face.left_ok a0_0 A0_1 l0_1.length c0_1 A1 l1.length c1 fs w (Face.fitL_iff.1 hf) hof
   · rw [if_neg hf] at h; cases h
 · rw [if_neg he] at h
   obtain ⟨rfl, rfl⟩ : ([] : List Int) = r1 ∧ e0 = r2 := by simpa using h
   exact Face.left_bad a0_0 A0_1 l0_1.length c0_1 A1 l1.length c1 e0 he fs w hof
end Go.Proofs.Ytmikcfddipldnaa.GAll
namespace Go.Proofs.Ytmikcfddipldnaa.GAll
open Go.RowKit Go.Proofs.YtmikcfddipldnaaW.PrintWords Go.Proofs.YtmikcfddipldnaaW.PrintLast Go.Proofs.YtmikcfddipldnaaW.PrintMore
attribute [local go_sem] max2_int min2_int max_two min_two max_three min_three max_four min_four   -- for this text's walks alone
set_option linter.unusedVariables false
set_option linter.unusedSimpArgs false
def tangramref03_SameLists.l0 : Nat → List (List Int) → List (List Int) → Int → Option (Bool)
 | 0, _, _, _ => none
 | k + 1, x0, x1, x5 => if x5 < (x0.length : Int) then (if 0 ≤ x5 then (if x5 < (x1.length : Int) then ((tangramref03_SameInts.f k (rd_L5 x0 x5) (rd_L5 x1 x5)).bind fun t133 => (if t133 = true then (tangramref03_SameLists.l0 k x0 x1 (wrap64 (x5 + 1))) else (some false))) else (none)) else (none)) else (some true)
def tangramref03_SameLists.f (k : Nat) (l0 : List (List Int)) (l1 : List (List Int)) : Option (Bool) := if (l0.length : Int) = (l1.length : Int) then (tangramref03_SameLists.l0 k l0 l1 0) else (some false)
theorem tangramref03_SameLists.mono_l : ∀ k, (∀ y0 y1 y2, LeO (tangramref03_SameLists.l0 k y0 y1 y2) (tangramref03_SameLists.l0 (k + 1) y0 y1 y2))
 | 0 => fun _ _ _ r h => by simp [tangramref03_SameLists.l0] at h
 | k + 1 => by
   have ih0 := tangramref03_SameLists.mono_l k
   · intro y0 y1 y2
     unfold tangramref03_SameLists.l0
     repeat' first
     | (with_reducible exact ih0 _ _ _)
     | (with_reducible exact tangramref03_SameInts.mono _ _ _)
     | (with_reducible exact LeO.refl _)
     | (with_reducible exact LeO.none _)
     | (with_reducible refine LeO.ite ?_ ?_)
     | (with_reducible refine LeO.bind ?_ (fun _ => ?_))
     | exact ih0 _ _ _
     | exact tangramref03_SameInts.mono _ _ _
     | exact LeO.none _
     | refine LeO.ite ?_ ?_
     | refine LeO.bind ?_ (fun _ => ?_)
theorem tangramref03_SameLists.mono : ∀ a0 a1 k, LeO (tangramref03_SameLists.f k a0 a1) (tangramref03_SameLists.f (k + 1) a0 a1) := by
 intro a0 a1 k
 have ih0 := tangramref03_SameLists.mono_l k
 unfold tangramref03_SameLists.f
 repeat' first
     | (with_reducible exact ih0 _ _ _)
     | (with_reducible exact tangramref03_SameInts.mono _ _ _)
     | (with_reducible exact LeO.refl _)
     | (with_reducible exact LeO.none _)
     | (with_reducible refine LeO.ite ?_ ?_)
     | (with_reducible refine LeO.bind ?_ (fun _ => ?_))
     | exact ih0 _ _ _
     | exact tangramref03_SameInts.mono _ _ _
     | exact LeO.none _
     | refine LeO.ite ?_ ?_
     | refine LeO.bind ?_ (fun _ => ?_)
set_option maxHeartbeats 8000000 in
set_option maxRecDepth 100000 in
theorem tangramref03_SameLists.calls (k : Nat) (A0 : Option Addr) (c0 : Nat) (l0 : List (List Int)) (A1 : Option Addr) (c1 : Nat) (l1 : List (List Int)) (r : Bool) (w : World) (hr0 : Kd.C (Kd.slice 3 (Kd.int .i64)) w A0 l0.length l0) (hc0 : l0.length ≤ c0) (hr1 : Kd.C (Kd.slice 3 (Kd.int .i64)) w A1 l1.length l1) (hc1 : l1.length ≤ c1) (h : tangramref03_SameLists.f k l0 l1 = some r) :
   Calls Try.prog 14 #[.slice A0 l0.length c0, .slice A1 l1.length c1] w fun e w' => e = .returned (.bool r) ∧ Drawn0 w w' := by
 have HR0 := Aside0.mk hr0
 have HC0 := Aside0.mk hc0
 clear hr0 hc0
 have HR1 := Aside0.mk hr1
 have HC1 := Aside0.mk hc1
 clear hr1 hc1
 have H : (if (l0.length : Int) = (l1.length : Int) then (tangramref03_SameLists.l0 k l0 l1 0) else (some false)) = some r := h
 clear h
 by_cases c3 : (l0.length : Int) = (l1.length : Int)
 · rw [if_pos c3] at H
   have c3b0 : ((l0.length : Int) == (l1.length : Int)) = true := beq_iff_eq.mpr c3
   have c3b1 : ((l0.length : Int) != (l1.length : Int)) = false := bne_eq_false_iff_eq.mpr c3
   have c3b2 : (l0.length == l1.length) = true := by first | simpa using c3 | (simp at c3 ⊢; omega)
   clear c3
   have H' := Aside0.mk H
   clear H
   go_enter Try.func14, Try.ntmps14
   go_wp2
   repeat (go_quiet (fail); try go_wp2)
   go_loopg [5] k (fun kq v5 w' => ∃ (x5_1 : Int), v5 = .int .i64 x5_1 ∧ Aside0 (tangramref03_SameLists.l0 kq l0 l1 x5_1 = some r) ∧ Aside0 (kq ≤ k) ∧ Drawn0 w w')
   case atStart => exact ⟨(0), (by first | rfl | (simp; done) | (simp [*]; done)), H', ⟨Nat.le_refl _⟩, by repeat (first | exact Drawn0.refl _ | apply Drawn0.step)⟩
   case round =>
     clear H'
     try clear c1
     try clear p2
     try clear c3
     try clear c3b0
     try clear c3b1
     try clear c3b2
     obtain ⟨x5_1, rfl, HA, HK1, ⟨m1, rfl⟩⟩ := hrel
     cases gk with
     | zero => exact absurd HA.out (by simp [tangramref03_SameLists.l0])
     | succ k1 =>
       have H := HA.out
       clear HA
       simp only [tangramref03_SameLists.l0] at H
       by_cases c4 : x5_1 < (l0.length : Int)
       · rw [if_pos c4] at H
         have c4b0 : decide (x5_1 < (l0.length : Int)) = true := decide_eq_true c4
         clear c4
         by_cases c5 : 0 ≤ x5_1
         · rw [if_pos c5] at H
           have c5b0 : decide (0 ≤ x5_1) = true := decide_eq_true c5
           clear c5
           by_cases c6 : x5_1 < (l1.length : Int)
           · rw [if_pos c6] at H
             have c6b0 : decide (x5_1 < (l1.length : Int)) = true := decide_eq_true c6
             clear c6
             replace H := Option.bind_eq_some_iff.mp H
             obtain ⟨t133, A70, H⟩ := H
             replace H : (if t133 = true then (tangramref03_SameLists.l0 k1 l0 l1 (wrap64 (x5_1 + 1))) else (some false)) = some r := H
             have A7 := Aside0.mk A70
             clear A70
             by_cases c8 : t133 = true
             · subst c8
               have H1 : (tangramref03_SameLists.l0 k1 l0 l1 (wrap64 (x5_1 + 1))) = some r := by rw [if_pos rfl] at H; exact H
               clear H
               have H := H1
               clear H1
               have H' := Aside0.mk H
               clear H
               have p131 : 0 ≤ (x5_1 : Int) := of_decide_eq_true (by first | (with_reducible assumption) | assumption)
               have q131 : x5_1 < (l0.length : Int) := of_decide_eq_true (by first | (with_reducible assumption) | assumption)
               obtain ⟨ad131, A131_0, c131_0, e131, hx131_0, hl131_0, hi131_0⟩ := at_L5 HR0.out x5_1 p131 q131
               cases e131
               have HR131_0 := Aside0.mk hi131_0
               have HC131_0 := Aside0.mk hl131_0
               clear hi131_0 hl131_0
               replace p131 := eq_true p131
               replace q131 := eq_true q131
               have p132 : 0 ≤ (x5_1 : Int) := of_decide_eq_true (by first | (with_reducible assumption) | assumption)
               have q132 : x5_1 < (l1.length : Int) := of_decide_eq_true (by first | (with_reducible assumption) | assumption)
               obtain ⟨ad132, A132_0, c132_0, e132, hx132_0, hl132_0, hi132_0⟩ := at_L5 HR1.out x5_1 p132 q132
               cases e132
               have HR132_0 := Aside0.mk hi132_0
               have HC132_0 := Aside0.mk hl132_0
               clear hi132_0 hl132_0
               replace p132 := eq_true p132
               replace q132 := eq_true q132
               go_wp2_with (first | (go_at_call 17; (with_reducible refine (tangramref03_SameInts.calls k1 _ _ (rd_L5 l0 x5_1) _ _ (rd_L5 l1 x5_1) true _ ?side1 ?side2 ?side3 ?side4 A7.out).mono ?_); (case side1 => repeat (first | exact HR131_0.out | (with_reducible refine Kd.C_alloc ?_ _) | (with_reducible refine Kd.C_drewN ?_ _) | (with_reducible refine Kd.C_drew ?_))); (case side2 => exact HC131_0.out); (case side3 => repeat (first | exact HR132_0.out | (with_reducible refine Kd.C_alloc ?_ _) | (with_reducible refine Kd.C_drewN ?_ _) | (with_reducible refine Kd.C_drew ?_))); (case side4 => exact HC132_0.out); rintro e w' ⟨rfl, ⟨nd, rfl⟩⟩; (try first | exact ⟨rfl, _, World.drewN_drewN _ _ _⟩ | exact ⟨rfl, _, Eq.trans (World.drewN_drewN _ _ _) (congrArg (World.drewN _) (Nat.add_assoc _ _ _))⟩)))
               repeat (go_quiet (first | (go_at_call 17; (with_reducible refine (tangramref03_SameInts.calls k1 _ _ (rd_L5 l0 x5_1) _ _ (rd_L5 l1 x5_1) true _ ?side1 ?side2 ?side3 ?side4 A7.out).mono ?_); (case side1 => repeat (first | exact HR131_0.out | (with_reducible refine Kd.C_alloc ?_ _) | (with_reducible refine Kd.C_drewN ?_ _) | (with_reducible refine Kd.C_drew ?_))); (case side2 => exact HC131_0.out); (case side3 => repeat (first | exact HR132_0.out | (with_reducible refine Kd.C_alloc ?_ _) | (with_reducible refine Kd.C_drewN ?_ _) | (with_reducible refine Kd.C_drew ?_))); (case side4 => exact HC132_0.out); rintro e w' ⟨rfl, ⟨nd, rfl⟩⟩; (try first | exact ⟨rfl, _, World.drewN_drewN _ _ _⟩ | exact ⟨rfl, _, Eq.trans (World.drewN_drewN _ _ _) (congrArg (World.drewN _) (Nat.add_assoc _ _ _))⟩))); try go_wp2_with (first | (go_at_call 17; (with_reducible refine (tangramref03_SameInts.calls k1 _ _ (rd_L5 l0 x5_1) _ _ (rd_L5 l1 x5_1) true _ ?side1 ?side2 ?side3 ?side4 A7.out).mono ?_); (case side1 => repeat (first | exact HR131_0.out | (with_reducible refine Kd.C_alloc ?_ _) | (with_reducible refine Kd.C_drewN ?_ _) | (with_reducible refine Kd.C_drew ?_))); (case side2 => exact HC131_0.out); (case side3 => repeat (first | exact HR132_0.out | (with_reducible refine Kd.C_alloc ?_ _) | (with_reducible refine Kd.C_drewN ?_ _) | (with_reducible refine Kd.C_drew ?_))); (case side4 => exact HC132_0.out); rintro e w' ⟨rfl, ⟨nd, rfl⟩⟩; (try first | exact ⟨rfl, _, World.drewN_drewN _ _ _⟩ | exact ⟨rfl, _, Eq.trans (World.drewN_drewN _ _ _) (congrArg (World.drewN _) (Nat.add_assoc _ _ _))⟩))))
               go_roundg k1
               case measure => have := HK1.out; omega
               case rel => exact ⟨(wrap64 (x5_1 + 1)), (by first | rfl | (simp; done) | (simp [*]; done)), H', ⟨by have := HK1.out; omega⟩, by repeat (first | exact Drawn0.refl _ | apply Drawn0.step)⟩
             · replace c8 := Bool.eq_false_iff.mpr c8
               subst c8
               have H1 : (some false) = some r := by rw [if_neg (show ¬ (false = true) by decide)] at H; exact H
               clear H
               have H := H1
               clear H1
               obtain rfl := Option.some.inj H
               have p131 : 0 ≤ (x5_1 : Int) := of_decide_eq_true (by first | (with_reducible assumption) | assumption)
               have q131 : x5_1 < (l0.length : Int) := of_decide_eq_true (by first | (with_reducible assumption) | assumption)
               obtain ⟨ad131, A131_0, c131_0, e131, hx131_0, hl131_0, hi131_0⟩ := at_L5 HR0.out x5_1 p131 q131
               cases e131
               have HR131_0 := Aside0.mk hi131_0
               have HC131_0 := Aside0.mk hl131_0
               clear hi131_0 hl131_0
               replace p131 := eq_true p131
               replace q131 := eq_true q131
               have p132 : 0 ≤ (x5_1 : Int) := of_decide_eq_true (by first | (with_reducible assumption) | assumption)
               have q132 : x5_1 < (l1.length : Int) := of_decide_eq_true (by first | (with_reducible assumption) | assumption)
               obtain ⟨ad132, A132_0, c132_0, e132, hx132_0, hl132_0, hi132_0⟩ := at_L5 HR1.out x5_1 p132 q132
               cases e132
               have HR132_0 := Aside0.mk hi132_0
               have HC132_0 := Aside0.mk hl132_0
               clear hi132_0 hl132_0
               replace p132 := eq_true p132
               replace q132 := eq_true q132
               go_wp2_with (first | (go_at_call 17; (with_reducible refine (tangramref03_SameInts.calls k1 _ _ (rd_L5 l0 x5_1) _ _ (rd_L5 l1 x5_1) false _ ?side1 ?side2 ?side3 ?side4 A7.out).mono ?_); (case side1 => repeat (first | exact HR131_0.out | (with_reducible refine Kd.C_alloc ?_ _) | (with_reducible refine Kd.C_drewN ?_ _) | (with_reducible refine Kd.C_drew ?_))); (case side2 => exact HC131_0.out); (case side3 => repeat (first | exact HR132_0.out | (with_reducible refine Kd.C_alloc ?_ _) | (with_reducible refine Kd.C_drewN ?_ _) | (with_reducible refine Kd.C_drew ?_))); (case side4 => exact HC132_0.out); rintro e w' ⟨rfl, ⟨nd, rfl⟩⟩; (try first | exact ⟨rfl, _, World.drewN_drewN _ _ _⟩ | exact ⟨rfl, _, Eq.trans (World.drewN_drewN _ _ _) (congrArg (World.drewN _) (Nat.add_assoc _ _ _))⟩)))
               repeat (go_quiet (first | (go_at_call 17; (with_reducible refine (tangramref03_SameInts.calls k1 _ _ (rd_L5 l0 x5_1) _ _ (rd_L5 l1 x5_1) false _ ?side1 ?side2 ?side3 ?side4 A7.out).mono ?_); (case side1 => repeat (first | exact HR131_0.out | (with_reducible refine Kd.C_alloc ?_ _) | (with_reducible refine Kd.C_drewN ?_ _) | (with_reducible refine Kd.C_drew ?_))); (case side2 => exact HC131_0.out); (case side3 => repeat (first | exact HR132_0.out | (with_reducible refine Kd.C_alloc ?_ _) | (with_reducible refine Kd.C_drewN ?_ _) | (with_reducible refine Kd.C_drew ?_))); (case side4 => exact HC132_0.out); rintro e w' ⟨rfl, ⟨nd, rfl⟩⟩; (try first | exact ⟨rfl, _, World.drewN_drewN _ _ _⟩ | exact ⟨rfl, _, Eq.trans (World.drewN_drewN _ _ _) (congrArg (World.drewN _) (Nat.add_assoc _ _ _))⟩))); try go_wp2_with (first | (go_at_call 17; (with_reducible refine (tangramref03_SameInts.calls k1 _ _ (rd_L5 l0 x5_1) _ _ (rd_L5 l1 x5_1) false _ ?side1 ?side2 ?side3 ?side4 A7.out).mono ?_); (case side1 => repeat (first | exact HR131_0.out | (with_reducible refine Kd.C_alloc ?_ _) | (with_reducible refine Kd.C_drewN ?_ _) | (with_reducible refine Kd.C_drew ?_))); (case side2 => exact HC131_0.out); (case side3 => repeat (first | exact HR132_0.out | (with_reducible refine Kd.C_alloc ?_ _) | (with_reducible refine Kd.C_drewN ?_ _) | (with_reducible refine Kd.C_drew ?_))); (case side4 => exact HC132_0.out); rintro e w' ⟨rfl, ⟨nd, rfl⟩⟩; (try first | exact ⟨rfl, _, World.drewN_drewN _ _ _⟩ | exact ⟨rfl, _, Eq.trans (World.drewN_drewN _ _ _) (congrArg (World.drewN _) (Nat.add_assoc _ _ _))⟩))))
               go_ret
               exact ⟨by first | rfl | (simp; done) | (simp [*]; done), by repeat (first | exact Drawn0.refl _ | apply Drawn0.step)⟩
           · rw [if_neg c6] at H
             exact absurd H (by simp)
         · rw [if_neg c5] at H
           exact absurd H (by simp)
       · rw [if_neg c4] at H
         have c4b0 : decide (x5_1 < (l0.length : Int)) = false := decide_eq_false c4
         clear c4
         obtain rfl := Option.some.inj H
         go_wp2
         repeat (go_quiet (fail); try go_wp2)
         go_ret
         exact ⟨by first | rfl | (simp; done) | (simp [*]; done), by repeat (first | exact Drawn0.refl _ | apply Drawn0.step)⟩
 · rw [if_neg c3] at H
   have c3b0 : ((l0.length : Int) == (l1.length : Int)) = false := beq_eq_false_iff_ne.mpr c3
   have c3b1 : ((l0.length : Int) != (l1.length : Int)) = true := bne_iff_ne.mpr c3
   have c3b2 : (l0.length == l1.length) = false := by first | simpa using c3 | (simp at c3 ⊢; omega)
   obtain rfl := Option.some.inj H
   go_enter Try.func14, Try.ntmps14
   go_wp2
   repeat (go_quiet (fail); try go_wp2)
   go_ret
   exact ⟨by first | rfl | (simp; done) | (simp [*]; done), by repeat (first | exact Drawn0.refl _ | apply Drawn0.step)⟩
end Go.Proofs.Ytmikcfddipldnaa.GAll
namespace Go.Proofs.Ytmikcfddipldnaa.Rot
open Go.RowKit Go.Proofs.YtmikcfddipldnaaW.PrintWords Go.Proofs.YtmikcfddipldnaaW.PrintLast Go.Proofs.YtmikcfddipldnaaW.PrintMore Go.Proofs.Ytmikcfddipldnaa.GAll Go.Proofs.Ytmikcfddipldnaa.Mem Go.Proofs.Ytmikcfddipldnaa.Ring Go.Proofs.Ytmikcfddipldnaa.Face
set_option linter.unusedVariables false
set_option linter.unusedSimpArgs false
theorem wad {i : Nat} (h : i ≤ 900000000) : wrap64 ((i : Int) + 1) = ((i + 1 : Nat) : Int) := by rw [IntWalk.wrap64_in _ (by omega)]; omega
section
variable {n : Nat} {l : List Ed} {r : List (List Int)}
theorem goFace_go {st : List Int} {m : Nat} {T : List Bool} {fc : List Int} {k : Int} (h : gb T k.toNat = false) : goFace st (m + 1) T fc k = goFace st m (T.set k.toNat true) (fc ++ [k]) (gi st k.toNat) := by
 conv => lhs; unfold goFace
 rw [if_neg (by rw [h]; simp)]
theorem goFace_stop {st : List Int} {m : Nat} {T : List Bool} {fc : List Int} {k : Int} (h : gb T k.toNat = true) : goFace st m T fc k = (T, fc) := by
 cases m with
 | zero => rfl
 | succ m =>
   conv => lhs; unfold goFace
   rw [if_pos h]
theorem gi_ge {st : List Int} {m : Nat} : ∀ (T : List Bool) (fc : List Int) (k : Int), fc.length ≤ (goFace st m T fc k).2.length := by
 induction m with
 | zero => intro T fc k; exact Nat.le_refl _
 | succ m ih =>
   intro T fc k
   unfold goFace
   split
   · exact Nat.le_refl _
   · have := ih (T.set k.toNat true) (fc ++ [k]) (gi st k.toNat)
     simp at this; omega
theorem walk_ev (hm : IsMap n l r) {out : List (List Int)} {h : Nat} {res : List (List Int) × Int} (ho : out.length ≤ 8388608) (hh : h < 2 * l.length) :
   ∀ (m : Nat) (T : List Bool) (fc : List Int) (k : Nat), T.length = 2 * l.length → left T ≤ m → k < 2 * l.length → fc.length + m ≤ 2 * l.length →
     Ev (fun q => faces_Of.l0 q (nxOf l r) (goFace (stOf l r) m T fc (k : Int)).1 (if 0 < (goFace (stOf l r) m T fc (k : Int)).2.length then out ++ [(goFace (stOf l r) m T fc (k : Int)).2] else out) ((nxOf l r).length : Int) ((h + 1 : Nat) : Int)) res →
     Ev (fun q => faces_Of.l1 q (nxOf l r) T out fc (k : Int) ((nxOf l r).length : Int) (h : Int)) res := by
 have hll := hm.good.2.2.1
 have hlen := hm.len
 have key : ∀ (m : Nat) (T : List Bool) (fc : List Int) (k : Nat), T.length = 2 * l.length → k < 2 * l.length → gb T k = true → Ev (fun q => faces_Of.l0 q (nxOf l r) (goFace (stOf l r) m T fc (k : Int)).1 (if 0 < (goFace (stOf l r) m T fc (k : Int)).2.length then out ++ [(goFace (stOf l r) m T fc (k : Int)).2] else out) ((nxOf l r).length : Int) ((h + 1 : Nat) : Int)) res →
     Ev (fun q => faces_Of.l1 q (nxOf l r) T out fc (k : Int) ((nxOf l r).length : Int) (h : Int)) res := by
   intro m T fc k hT hk hg H
   rw [goFace_stop (by rw [Int.toNat_natCast]; exact hg)] at H
   refine Ev.step (fun q => ?_) H
   simp only [faces_Of.l1]
   change (if 0 ≤ (k : Int) then (if (k : Int) < (T.length : Int) then (if gb T ((k : Int).toNat) = true then _ else _) else _) else _) = _
   rw [if_pos (by omega), if_pos (by omega), Int.toNat_natCast, if_pos hg, wad (by omega)]
   by_cases c : 0 < fc.length
   · rw [if_pos (by omega), if_pos (by omega), if_pos c]
   · rw [if_neg (by omega), if_neg c]
 intro m
 induction m with
 | zero =>
   intro T fc k hT hl hk hf H
   exact key 0 T fc k hT hk (left_zero (by omega) (by omega)) H
 | succ m ih =>
   intro T fc k hT hl hk hf H
   cases hg : gb T k with
   | true => exact key (m + 1) T fc k hT hk hg H
   | false =>
     rw [goFace_go (by rw [Int.toNat_natCast]; exact hg), Int.toNat_natCast, gi_stOf hk, hm.nxf_eq (twn_lt hk)] at H
     have hls := left_set T k (by omega) hg
     have hin := hm.steps.inn k (by rw [stOf_length]; exact hk)
     rw [stOf_length, stf_eq hk] at hin
     refine Ev.step (fun q => ?_) (ih (T.set k true) (fc ++ [(k : Int)]) (nxf l r (twn k)) (by rw [List.length_set]; exact hT) (by omega) hin (by simp; omega) H)
     have ht := tw_twn (h := k) (by omega)
     have htl := twn_lt hk
     simp only [faces_Of.l1]
     change (if 0 ≤ (k : Int) then (if (k : Int) < (T.length : Int) then (if gb T ((k : Int).toNat) = true then _ else _) else _) else _) = _
     rw [if_pos (by omega), if_pos (by omega), Int.toNat_natCast, if_neg (by rw [hg]; simp), if_pos (by omega), ht, if_pos (by omega), if_pos (by omega), gi_rd, hm.nxf_eq htl]
theorem of_loop (hm : IsMap n l r) (d : Nat) : ∀ h : Nat, h + d = 2 * l.length → Ev (fun q => faces_Of.l0 q (nxOf l r) (facesTo (stOf l r) (2 * l.length) h).1 (facesTo (stOf l r) (2 * l.length) h).2 ((nxOf l r).length : Int) (h : Int)) (facesL (stOf l r), 0) := by
 have hll := hm.good.2.2.1
 have hlen := hm.len
 induction d with
 | zero =>
   intro h hh
   obtain rfl : h = 2 * l.length := by omega
   refine Ev.step (f := fun _ => some (facesL (stOf l r), 0)) (fun q => ?_) (Ev.now _)
   simp only [faces_Of.l0]
   rw [if_neg (by omega)]
   unfold facesL
   rw [stOf_length]
 | succ d ih =>
   intro h hh
   have H := ih (h + 1) (by omega)
   obtain ⟨f1, f2⟩ := facesTo_len (stOf l r) (2 * l.length) h
   refine Ev.step (fun q => ?_) (walk_ev hm (out := (facesTo (stOf l r) (2 * l.length) h).2) (h := h) (res := (facesL (stOf l r), 0)) (by omega) (by omega) (2 * l.length) (facesTo (stOf l r) (2 * l.length) h).1 [] h f1 (by have := left_le (facesTo (stOf l r) (2 * l.length) h).1; omega) (by omega) (by simp) ?_)
   · simp only [faces_Of.l0]
     rw [if_pos (by omega)]
   · unfold facesTo at H
     cases hg : gb (facesTo (stOf l r) (2 * l.length) h).1 h with
     | true =>
       rw [if_pos hg] at H
       rw [goFace_stop (by rw [Int.toNat_natCast]; exact hg)]
       simpa using H
     | false =>
       rw [if_neg (by rw [hg]; simp)] at H
       obtain ⟨m, hmm⟩ : ∃ m, 2 * l.length = m + 1 := ⟨2 * l.length - 1, by omega⟩
       have hp : 0 < (goFace (stOf l r) (2 * l.length) (facesTo (stOf l r) (2 * l.length) h).1 [] (h : Int)).2.length := by
         generalize (facesTo (stOf l r) (2 * l.length) h).1 = T at hg
         rw [hmm, goFace_go (by rw [Int.toNat_natCast]; exact hg)]
         have := gi_ge (st := stOf l r) (m := m) (T.set ((h : Int).toNat) true) ([] ++ [(h : Int)]) (gi (stOf l r) ((h : Int).toNat))
         simp at this ⊢; omega
       rw [if_pos hp]
       exact H
theorem next_bad {v e : Int} {a : Int} (he : e ≠ 0) (h : Ev (fun k => rot_Check.f k a l r) (v, e)) : Ev (fun k => rot_Next.f k a l r) ([], e) := by
 unfold rot_Next.f
 exact Ev.bind h (Ev.congr (fun k => if_neg he) (Ev.now _))
theorem of_bad {v e : Int} {a : Int} (he : e ≠ 0) (h : Ev (fun k => rot_Check.f k a l r) (v, e)) : Ev (fun k => faces_Of.f k a l r) ([], e) := by
 unfold faces_Of.f
 exact Ev.bind (next_bad he h) (Ev.congr (fun k => if_neg he) (Ev.now _))
theorem of_ok (hm : IsMap n l r) (h : Ev (fun k => rot_Check.f k (n : Int) l r) (0, 0)) : Ev (fun k => faces_Of.f k (n : Int) l r) (facesL (stOf l r), 0) := by
 have hlen := hm.len
 have hll := hm.good.2.2.1
 have H := of_loop hm (2 * l.length) 0 (by omega)
 unfold faces_Of.f
 refine Ev.bind (next_ev hm h) (Ev.congr (fun k => ?_) H)
 simp only
 rw [if_pos trivial, if_pos (by omega), if_pos (by omega)]
 show faces_Of.l0 k _ (List.replicate ((nxOf l r).length : Int).toNat false) [] _ 0 = _
 rw [Int.toNat_natCast, hlen]
 rfl
theorem twin_nat {h : Nat} (hh : h ≤ 9000000) : tangramref03_Twin.f (h : Int) = some (twn h : Int) := by
 unfold tangramref03_Twin.f
 have e1 : Int.tmod (h : Int) 2 = ((h % 2 : Nat) : Int) := rfl
 rw [e1]
 unfold twn
 by_cases c : h % 2 = 0
 · rw [if_pos (by omega), if_pos c, IntWalk.wrap64_in _ (by omega)]; rfl
 · rw [if_neg (by omega), if_neg c, IntWalk.wrap64_in _ (by omega), show (h : Int) - 1 = ((h - 1 : Nat) : Int) by omega]
theorem step_loop (hm : IsMap n l r) (e : Int) (d : Nat) : ∀ h : Nat, h + d = 2 * l.length → Ev (fun q => tangramref12_Step.l0 q (nxOf l r) e ((stOf l r).take h) (h : Int)) (stOf l r, e) := by
 have hll := hm.good.2.2.1
 have hlen := hm.len
 have hsl := stOf_length (l := l) (r := r)
 induction d with
 | zero =>
   intro h hh
   refine Ev.step (f := fun _ => some (stOf l r, e)) (fun q => ?_) (Ev.now _)
   simp only [tangramref12_Step.l0]
   rw [if_neg (by omega), List.take_of_length_le (by omega)]
 | succ d ih =>
   intro h hh
   have hx : h < (stOf l r).length := by omega
   have htl := twn_lt (h := h) (m := l.length) (by omega)
   refine Ev.step (fun q => ?_) (ih (h + 1) (by omega))
   simp only [tangramref12_Step.l0]
   rw [if_pos (by omega), twin_nat (by omega), Option.bind_some, if_pos (by omega), if_pos (by omega), if_pos (by rw [List.length_take]; omega), wad (by omega), List.take_succ_eq_append_getElem hx, gi_rd, ← gi_stOf (by omega), gi_get0 hx]
theorem refstep_ok (hm : IsMap n l r) (h : Ev (fun k => tangramref11_Check.f k (n : Int) l r) (0, 0)) : Ev (fun k => tangramref12_Step.f k (n : Int) l r) (stOf l r, 0) := by
 unfold tangramref12_Step.f
 exact Ev.bind (refnext_ev hm h) (step_loop hm 0 (2 * l.length) 0 (by omega))
theorem refstep_bad {v e : Int} {a : Int} (he : e ≠ 0) (h : Ev (fun k => tangramref11_Check.f k a l r) (v, e)) : Ev (fun k => tangramref12_Step.f k a l r) ([], e) := by
 unfold tangramref12_Step.f tangramref11_Next.f
 refine Ev.bind (a := ([], e)) (Ev.bind h (Ev.congr (fun k => if_neg he) (Ev.now _))) ?_
 refine Ev.step (f := fun _ => some ([], e)) (fun q => ?_) (Ev.now _)
 simp only [tangramref12_Step.l0]
 rfl
theorem IsMap.fits (hm : IsMap n l r) : fitsB (stOf l r) = true := by
 have hll := hm.good.2.2.1
 refine fits_iff.2 ⟨by rw [stOf_length]; omega, fun i hi => ?_⟩
 have h1 := hm.steps.at_ i hi
 have h2 := hm.steps.inn i hi
 omega
theorem refof_ok (hm : IsMap n l r) (h : Ev (fun k => tangramref11_Check.f k (n : Int) l r) (0, 0)) : Ev (fun k => tangramref12_Of.f k (n : Int) l r) (facesL (stOf l r), 0) := by
 unfold tangramref12_Of.f
 exact Ev.bind (refstep_ok hm h) (Ev.congr (fun k => if_pos rfl) (Ev.congr (fun k => if_pos hm.fits) (Ev.now _)))
theorem refof_bad {v e : Int} {a : Int} (he : e ≠ 0) (h : Ev (fun k => tangramref11_Check.f k a l r) (v, e)) : Ev (fun k => tangramref12_Of.f k a l r) ([], e) := by
 unfold tangramref12_Of.f
 exact Ev.bind (refstep_bad he h) (Ev.congr (fun k => if_neg he) (Ev.now _))
theorem faces_mem (hm : IsMap n l r) {F : List (List Nat)} (hF : Faces (stf l r) (2 * l.length) F) {L : List Nat} (hL : L ∈ F) : ∀ x ∈ L, x < 2 * l.length := fun x hx => by
 have := hF.perm.mem_iff.1 (List.mem_flatten.2 ⟨L, hL, hx⟩)
 rwa [List.mem_range] at this
theorem len_le_flat : ∀ (F : List (List Nat)), (∀ L ∈ F, L ≠ []) → F.length ≤ F.flatten.length
 | [], _ => Nat.le_refl _
 | L :: F, h => by
   have ih := len_le_flat F (fun M hM => h M (List.mem_cons_of_mem _ hM))
   have := List.length_pos_iff.2 (h L (List.mem_cons_self ..))
   rw [List.flatten_cons, List.length_append, List.length_cons]; omega
theorem one_le_flat {F : List (List Nat)} {L : List Nat} (h : L ∈ F) : L.length ≤ F.flatten.length := by
 obtain ⟨s, t, rfl⟩ := List.append_of_mem h
 simp; omega
theorem IsMap.small (hm : IsMap n l r) {F : List (List Nat)} (hF : Faces (stf l r) (2 * l.length) F) : F.length ≤ 2 * l.length ∧ ∀ L ∈ F, L.length ≤ 2 * l.length := by
 have h1 := hF.perm.length_eq
 rw [List.length_range] at h1
 exact ⟨by rw [← h1]; exact len_le_flat F (fun L hL => (hF.dec.ring L hL).1), fun L hL => by rw [← h1]; exact one_le_flat hL⟩
theorem IsMap.fitL (hm : IsMap n l r) : Face.fitL (facesL (stOf l r)) l.length = true := by
 obtain ⟨F, e, hF⟩ := hm.faces
 obtain ⟨s1, s2⟩ := hm.small hF
 have hll := hm.good.2.2.1
 rw [e]
 unfold Face.fitL
 simp only [Bool.and_eq_true, decide_eq_true_eq, List.all_eq_true, List.length_map]
 refine ⟨hll, by omega, fun row hrow => ?_⟩
 obtain ⟨L, hL, rfl⟩ := List.mem_map.1 hrow
 have := s2 L hL
 refine ⟨by unfold zN; rw [List.length_map]; omega, fun x hx => ?_⟩
 obtain ⟨y, hy, rfl⟩ := List.mem_map.1 hx
 have := faces_mem hm hF hL y hy
 omega
theorem left_ok (hm : IsMap n l r) (h : Ev (fun k => rot_Check.f k (n : Int) l r) (0, 0)) : Ev (fun k => faces_Left.f k (n : Int) l r) (leftL (facesL (stOf l r)) (2 * l.length), 0) := by
 unfold faces_Left.f
 exact Ev.bind (of_ok hm h) (Ev.congr (fun k => if_pos rfl) (Ev.congr (fun k => if_pos hm.fitL) (Ev.now _)))
theorem left_bad {v e : Int} {a : Int} (he : e ≠ 0) (h : Ev (fun k => rot_Check.f k a l r) (v, e)) : Ev (fun k => faces_Left.f k a l r) ([], e) := by
 unfold faces_Left.f
 exact Ev.bind (of_bad he h) (Ev.congr (fun k => if_neg he) (Ev.now _))
theorem refleft_ok (hm : IsMap n l r) (h : Ev (fun k => tangramref11_Check.f k (n : Int) l r) (0, 0)) : Ev (fun k => tangramref12_Left.f k (n : Int) l r) (leftL (facesL (stOf l r)) (2 * l.length), 0) := by
 unfold tangramref12_Left.f
 exact Ev.bind (refof_ok hm h) (Ev.congr (fun k => if_pos rfl) (Ev.congr (fun k => if_pos hm.fitL) (Ev.now _)))
theorem refleft_bad {v e : Int} {a : Int} (he : e ≠ 0) (h : Ev (fun k => tangramref11_Check.f k a l r) (v, e)) : Ev (fun k => tangramref12_Left.f k a l r) ([], e) := by
 unfold tangramref12_Left.f
 exact Ev.bind (refof_bad he h) (Ev.congr (fun k => if_neg he) (Ev.now _))
end
theorem lists_same (xs : List (List Int)) (hl : xs.length ≤ 900000000) (hi : ∀ x ∈ xs, x.length ≤ 900000000) : Ev (fun k => tangramref03_SameLists.f k xs xs) true := by
 have loop : ∀ (d i : Nat), i + d = xs.length → Ev (fun k => tangramref03_SameLists.l0 k xs xs (i : Int)) true := by
   intro d
   induction d with
   | zero =>
     intro i hi
     refine Ev.step (f := fun _ => some true) (fun k => ?_) (Ev.now _)
     simp only [tangramref03_SameLists.l0]
     rw [if_neg (by omega)]
   | succ d ih =>
     intro i hd
     refine Ev.step (f := fun k => (tangramref03_SameInts.f k (xs.getD i []) (xs.getD i [])).bind fun t => if t = true then tangramref03_SameLists.l0 k xs xs ((i + 1 : Nat) : Int) else some false) (fun k => ?_) (Ev.bind (ints_same (Nat.le_trans (hi _ ?_) (by decide))) ?_)
     · simp only [tangramref03_SameLists.l0]
       rw [if_pos (by omega), if_pos (by omega), if_pos (by omega), wad (by omega)]
       rfl
     · rw [List.getD_eq_getElem?_getD, List.getElem?_eq_getElem (by omega)]
       exact List.getElem_mem _
     · simp only [if_true]
       exact ih (i + 1) (by omega)
 refine Ev.congr (fun k => ?_) (loop xs.length 0 (by omega))
 simp only [tangramref03_SameLists.f]
 rw [if_pos trivial]
 rfl
theorem IsMap.lists {n : Nat} {l : List Ed} {r : List (List Int)} (hm : IsMap n l r) : (facesL (stOf l r)).length ≤ 8388608 ∧ ∀ x ∈ facesL (stOf l r), x.length ≤ 8388608 := by
 obtain ⟨F, e, hF⟩ := hm.faces
 obtain ⟨s1, s2⟩ := hm.small hF
 have hll := hm.good.2.2.1
 rw [e]
 refine ⟨by rw [List.length_map]; omega, fun x hx => ?_⟩
 obtain ⟨L, hL, rfl⟩ := List.mem_map.1 hx
 have := s2 L hL
 unfold zN
 rw [List.length_map]; omega
end Go.Proofs.Ytmikcfddipldnaa.Rot
namespace Go.Proofs.Ytmikcfddipldnaa.Sets
open Go.RowKit Go.Proofs.YtmikcfddipldnaaW.PrintWords Go.Proofs.YtmikcfddipldnaaW.PrintLast Go.Proofs.YtmikcfddipldnaaW.PrintMore
set_option linter.unusedVariables false
set_option linter.unusedSimpArgs false
def ints (l : List Nat) : List Int := l.map fun (x : Nat) => (x : Int)
theorem iv_encs (l : List Nat) : iv l = encs (Value.int .i64) (ints l) := by simp [iv, encs, ints, Function.comp_def]
theorem GRows.rows {w : World} {B bo base : Nat} {vs : List Value} {gs : List (List Nat)} {ok : Nat → Prop} (h : GRows w B bo vs gs) (hb : base ≤ bo) (hl : gs.length ≤ 9223372036854775807) (hok : ∀ k, base ≤ k → ok k) :
   Kd.R (Kd.slice 3 (Kd.int .i64)) 36 w base ok (.slice (some ⟨bo, 0, none⟩) gs.length gs.length) (gs.map ints) := by
 have hlt := h.lt
 have hsz : (Kd.slice 3 (Kd.int .i64)).sz = 1 := rfl
 refine ⟨fun k hk => hok k (by have : bo = k := by simpa [Value.ownBlock] using hk
                               omega), vs, ⟨by simp [h.len, hsz], .inr ⟨bo, gs.length, vs.toArray, by simp, hb, h.out, by simp, by unfold maxLen; simpa using hl, by simp [h.len, hsz], ?_⟩⟩, by simp [h.len, hsz], fun j p hj => ?_⟩
 · simp [List.take_of_length_le, h.len, hsz]
 · rw [List.getElem?_map] at hj
   obtain ⟨g, hg, rfl⟩ := Option.map_eq_some_iff.1 hj
   have hj2 : j < gs.length := (List.getElem?_eq_some_iff.1 hg).1
   have e1 : gl gs j = g := by unfold gl; rw [List.getD_eq_getElem?_getD, hg]; rfl
   have e2 : (vs.drop (j * 1)).take 1 = [va vs j] := by
     rw [Nat.mul_one, List.drop_eq_getElem_cons (by rw [h.len]; exact hj2), List.take_succ_cons, List.take_zero]
     simp [va, List.getD_eq_getElem?_getD, h.len, hj2]
   refine ⟨va vs j, e2, Kd.R_of_own ?_ (fun k hk => ?_)⟩
   · have := own_weaken (h.own j hj2) (show base ≤ B by omega)
     rw [iv_encs, e1] at this
     rw [show (ints g).length = g.length by simp [ints]]
     exact this
   · have := own_lt (h.own j hj2) hk
     refine ⟨hok k (by omega), fun e => ?_⟩
     have : k = bo := by simpa [Value.ownBlock] using e
     omega
def Sub (n : Nat) (es : List (Int × Int)) (m : List Nat) : Prop := ∃ E, Part n E m ∧ ∀ a b, E a b → Conn (EP n es) a b
theorem Sub.start (n : Nat) (es : List (Int × Int)) : Sub n es (List.range n) := ⟨_, Part.range n, fun _ _ h => h.elim⟩
theorem pe_mem {es : List (Int × Int)} {k : Nat} (h : k < es.length) : pe es k ∈ es := by
 unfold pe; rw [List.getD_eq_getElem?_getD, List.getElem?_eq_getElem h]; exact List.getElem_mem h
def Cov (n : Nat) (es : List (Int × Int)) (i : Nat) (m : List Nat) : Prop := ∃ E, Part n E m ∧ (∀ a b, E a b → Conn (EP n es) a b) ∧ ∀ j, i ≤ j → j < es.length → ∀ a b : Nat, a < n → b < n → pe es j = ((a : Int), (b : Int)) → Conn E a b
theorem Sub.cov {n : Nat} {es : List (Int × Int)} {m : List Nat} (h : Sub n es m) : Cov n es es.length m := by
 obtain ⟨E, h1, h2⟩ := h
 exact ⟨E, h1, h2, fun j h3 h4 => by omega⟩
theorem Sub.join {n : Nat} {es : List (Int × Int)} {m : List Nat} (h : Sub n es m) {k : Nat} (hk : k < es.length) : Sub n es (joinOf m (pe es k).2 (pe es k).1).1 := by
 obtain ⟨E, h1, h2⟩ := h
 refine ⟨_, joinOf_part h1 _ _, ?_⟩
 rintro a b (e | ⟨ha, hb, ea, eb⟩)
 · exact h2 a b e
 · exact (Conn.one (E := EP n es) ⟨hb, ha, by rw [ea, eb]; exact pe_mem hk⟩).symm
theorem Cov.join {n : Nat} {es : List (Int × Int)} {m : List Nat} {i : Nat} (h : Cov n es (i + 1) m) (hk : i < es.length) : Cov n es i (joinOf m (pe es i).1 (pe es i).2).1 := by
 obtain ⟨E, h1, h2, h3⟩ := h
 refine ⟨_, joinOf_part h1 _ _, ?_, ?_⟩
 · rintro a b (e | ⟨ha, hb, ea, eb⟩)
   · exact h2 a b e
   · exact Conn.one (E := EP n es) ⟨ha, hb, by rw [ea, eb]; exact pe_mem hk⟩
 · intro j hj hj2 a b ha hb he
   rcases Nat.lt_or_ge i j with h | h
   · exact (h3 j h hj2 a b ha hb he).mono fun _ _ e => .one (.inl e)
   · obtain rfl : j = i := by omega
     rw [he]
     exact .one (.inr ⟨ha, hb, rfl, rfl⟩)
theorem mem_pe {es : List (Int × Int)} {x : Int × Int} (h : x ∈ es) : ∃ j, j < es.length ∧ pe es j = x := by
 obtain ⟨j, hj, rfl⟩ := List.mem_iff_getElem.1 h
 exact ⟨j, hj, by unfold pe; rw [List.getD_eq_getElem?_getD, List.getElem?_eq_getElem hj]; rfl⟩
theorem Cov.all {n : Nat} {es : List (Int × Int)} {m : List Nat} (h : Cov n es 0 m) : m = joinAll (List.range n) es := by
 obtain ⟨E, h1, h2, h3⟩ := h
 refine h1.unique (joinAll_part n es) h2 ?_
 rintro a b ⟨ha, hb, hm⟩
 obtain ⟨j, hj, hp⟩ := mem_pe hm
 exact h3 j (by omega) hj a b ha hb hp
theorem again_no {n : Nat} {es : List (Int × Int)} {i : Nat} (hi : i < es.length) : joinOf (joinAll (List.range n) es) (pe es i).1 (pe es i).2 = (joinAll (List.range n) es, false) := by
 have hp := joinAll_part n es
 by_cases hk : ok (joinAll (List.range n) es) (pe es i).1 = true ∧ ok (joinAll (List.range n) es) (pe es i).2 = true
 · obtain ⟨a, ha, ha2⟩ := ok_nat hk.1
   obtain ⟨b, hb, hb2⟩ := ok_nat hk.2
   rw [hp.len] at ha2 hb2
   rw [ha, hb]
   refine joinOf_same (hp.const (.one ⟨ha2, hb2, ?_⟩))
   rw [← ha, ← hb]
   exact pe_mem hi
 · exact joinOf_out hk
def yesTo (m : List Nat) (es : List (Int × Int)) : Nat → Nat
 | 0 => 0
 | k + 1 => yesTo m es k + if (joinOf (joinAll m (es.take k)) (pe es k).1 (pe es k).2).2 = true then 1 else 0
theorem sets_yes (n : Nat) (es : List (Int × Int)) : ∀ k, k ≤ es.length → sets (joinAll (List.range n) (es.take k)) + yesTo (List.range n) es k = n := by
 intro k
 induction k with
 | zero => intro _; simp [joinAll, yesTo, sets_range]
 | succ k ih =>
   intro hk
   have h1 := ih (by omega)
   have h2 := sets_join (joinAll_part n (es.take k)) (pe es k).1 (pe es k).2
   rw [joinAll_take _ _ (by omega)]
   unfold yesTo
   omega
theorem numTo_sets {n : Nat} {E : Nat → Nat → Prop} {m : List Nat} (h : Part n E m) : ∀ k, k ≤ n → (numTo m k).2 = (List.range k).countP fun i => gt m i == i := by
 intro k
 induction k with
 | zero => intro _; rfl
 | succ k ih =>
   intro hk
   rw [List.range_succ, List.countP_append]
   have h1 := ih (by omega)
   have h2 := h.le k (by omega)
   unfold numTo
   by_cases c : gt m k < k
   · rw [if_pos c]
     simp [h1, show gt m k ≠ k by omega]
   · rw [if_neg c]
     simp [h1, show gt m k = k by omega]
theorem numTo_all {n : Nat} {E : Nat → Nat → Prop} {m : List Nat} (h : Part n E m) : (numTo m m.length).2 = sets m := by
 rw [h.len, numTo_sets h n (Nat.le_refl _)]
 unfold sets
 rw [h.len]
structure Two (w0 w : World) (p bP bS q bQ bT : Nat) (ms mt : List Nat) : Prop where
 s : At w p bP bS ms
 t : At w q bQ bT mt
 lo : w0.heap.size ≤ p ∧ w0.heap.size ≤ bP ∧ w0.heap.size ≤ bS ∧ w0.heap.size ≤ q ∧ w0.heap.size ≤ bQ ∧ w0.heap.size ≤ bT
 ap : p < q ∧ p < bQ ∧ p < bT ∧ bP < q ∧ bP < bQ ∧ bP < bT ∧ bS < q ∧ bS < bQ ∧ bS < bT
 old : Below w0.heap.size w0 w
def Own2 (p bP bS q bQ bT : Nat) (k : Nat) : Prop := Own p bP bS k ∨ Own q bQ bT k
theorem At.frame {w w' : World} {p bP bS : Nat} {m : List Nat} {S : Nat → Prop} (h : At w p bP bS m) (f : Frame S w w') (hs : ∀ k, Own p bP bS k → ¬ S k) : At w' p bP bS m := by
 obtain ⟨P, S', h⟩ := h
 exact ⟨P, S', f.blk h.obj (hs _ (.inl rfl)), f.blk h.par (hs _ (.inr (.inl rfl))), f.blk h.siz (hs _ (.inr (.inr rfl))), h.ne1, h.ne2, h.ne3, h.small, h.rep, h.sized⟩
theorem At.hi {w : World} {p bP bS : Nat} {m : List Nat} (h : At w p bP bS m) : p < w.heap.size ∧ bP < w.heap.size ∧ bS < w.heap.size := by
 obtain ⟨P, S', h⟩ := h
 exact ⟨blk_lt h.obj, blk_lt h.par, blk_lt h.siz⟩
section
variable {w0 w w' : World} {p bP bS q bQ bT : Nat} {ms mt : List Nat}
theorem Two.alloc (h : Two w0 w p bP bS q bQ bT ms mt) (o : Obj) : Two w0 (w.alloc o) p bP bS q bQ bT ms mt := by
 have f : Frame (fun _ => False) w (w.alloc o) := (Frame.refl _ w).alloc o
 exact ⟨h.s.frame f (fun _ _ e => e), h.t.frame f (fun _ _ e => e), h.lo, h.ap, h.old.alloc (by exact h.old.size) o⟩
theorem Two.put (h : Two w0 w p bP bS q bQ bT ms mt) {b i : Nat} (u : Value) (hb : w0.heap.size ≤ b) (hn : ¬ Own2 p bP bS q bQ bT b) : Two w0 (w.setCell ⟨b, i, none⟩ u) p bP bS q bQ bT ms mt := by
 have f : Frame (· = b) w (w.setCell ⟨b, i, none⟩ u) := Frame.setCell (S := (· = b)) (p := ⟨b, i, none⟩) (Frame.refl _ w) rfl u
 exact ⟨h.s.frame f (fun k hk e => hn (.inl (e ▸ hk))), h.t.frame f (fun k hk e => hn (.inr (e ▸ hk))), h.lo, h.ap, h.old.trans (f.below h.old.size (fun k hk => by omega))⟩
theorem Two.drawn (h : Two w0 w p bP bS q bQ bT ms mt) (n : Nat) : Two w0 (w.drewN n) p bP bS q bQ bT ms mt := by
 have f : Frame (fun _ => False) w (w.drewN n) := (Frame.refl _ w).drewN n
 exact ⟨h.s.frame f (fun _ _ e => e), h.t.frame f (fun _ _ e => e), h.lo, h.ap, h.old.trans (f.below h.old.size (fun k hk => hk.elim))⟩
theorem Two.drew (h : Two w0 w p bP bS q bQ bT ms mt) : Two w0 w.drew p bP bS q bQ bT ms mt := by
 have f : Frame (fun _ => False) w w.drew := (Frame.refl _ w).drew
 exact ⟨h.s.frame f (fun _ _ e => e), h.t.frame f (fun _ _ e => e), h.lo, h.ap, h.old.trans (f.below h.old.size (fun k hk => hk.elim))⟩
theorem Two.below (h : Two w0 w p bP bS q bQ bT ms mt) (hb : Below w.heap.size w w') : Two w0 w' p bP bS q bQ bT ms mt := by
 have h1 := h.s.hi
 have h2 := h.t.hi
 have f : Frame (fun k => w.heap.size ≤ k) w w' := ⟨hb.os, hb.tape, hb.output, hb.size, fun i hi _ => hb.block i hi⟩
 exact ⟨h.s.frame f (fun k hk e => by unfold Own at hk; omega), h.t.frame f (fun k hk e => by unfold Own at hk; omega), h.lo, h.ap, h.old.trans (hb.mono h.old.size)⟩
theorem Two.join_s (h : Two w0 w p bP bS q bQ bT ms mt) (a b : Int) :
   Calls Try.prog 37 #[.pointer (some ⟨p, 0, none⟩), .int .i64 a, .int .i64 b] w fun e w' => e = .returned (.bool (joinOf ms a b).2) ∧ Two w0 w' p bP bS q bQ bT (joinOf ms a b).1 mt ∧ Frame (Own2 p bP bS q bQ bT) w w' := by
 obtain ⟨P, S, hs⟩ := h.s
 refine (join_calls p bP bS ms P S a b w hs).mono ?_
 rintro e w' ⟨rfl, hA, hF⟩
 have hap := h.ap
 have hlo := h.lo
 exact ⟨rfl, ⟨hA, h.t.frame hF (fun k hk e => by unfold Own at hk e; omega), h.lo, h.ap, h.old.trans (hF.below h.old.size (fun k hk => by unfold Own at hk; omega))⟩, hF.mono fun _ e => .inl e⟩
theorem Two.join_t (h : Two w0 w p bP bS q bQ bT ms mt) (a b : Int) :
   Calls Try.prog 37 #[.pointer (some ⟨q, 0, none⟩), .int .i64 a, .int .i64 b] w fun e w' => e = .returned (.bool (joinOf mt a b).2) ∧ Two w0 w' p bP bS q bQ bT ms (joinOf mt a b).1 ∧ Frame (Own2 p bP bS q bQ bT) w w' := by
 obtain ⟨P, S, ht⟩ := h.t
 refine (join_calls q bQ bT mt P S a b w ht).mono ?_
 rintro e w' ⟨rfl, hA, hF⟩
 have hap := h.ap
 have hlo := h.lo
 exact ⟨rfl, ⟨h.s.frame hF (fun k hk e => by unfold Own at hk e; omega), hA, h.lo, h.ap, h.old.trans (hF.below h.old.size (fun k hk => by unfold Own at hk; omega))⟩, hF.mono fun _ e => .inr e⟩
theorem GRows.framed {B bo : Nat} {vs : List Value} {gs : List (List Nat)} {S : Nat → Prop} (h : GRows w B bo vs gs) (f : Frame S w w') (hs : ∀ k, S k → k < bo) : GRows w' B bo vs gs := by
 have hlt := h.lt
 refine ⟨h.len, f.blk h.out (fun e => by have := hs _ e; omega), fun j hj => own_move (h.own j hj) (fun k hk => ?_), h.apart, h.lt, Nat.le_trans h.base f.size⟩
 have := own_lt (h.own j hj) hk
 exact f.block k this.2 (fun e => by have := hs _ e; omega)
theorem groupsOf_length (m : List Nat) : (groupsOf m).length = (numTo m m.length).2 := grpTo_length _ _ _
theorem groupsOf_le {m : List Nat} {x : List Int} (h : x ∈ (groupsOf m).map ints) : x.length ≤ m.length := by
 obtain ⟨g, hg, rfl⟩ := List.mem_map.1 h
 obtain ⟨j, hj, rfl⟩ := List.mem_iff_getElem.1 hg
 have := grpTo_le (numTo m m.length).1 (numTo m m.length).2 m.length j
 unfold ints
 rw [List.length_map]
 have e : gl (groupsOf m) j = (groupsOf m)[j] := by unfold gl; rw [List.getD_eq_getElem?_getD, List.getElem?_eq_getElem hj]; rfl
 rw [← e]
 exact this
end
end Go.Proofs.Ytmikcfddipldnaa.Sets
namespace Go.Proofs.Ytmikcfddipldnaa.PureR
open Go.RowKit Go.Proofs.YtmikcfddipldnaaW.PrintWords Go.Proofs.YtmikcfddipldnaaW.PrintLast Go.Proofs.YtmikcfddipldnaaW.PrintMore Go.Proofs.Ytmikcfddipldnaa.Sets
set_option linter.unusedVariables false
set_option linter.unusedSimpArgs false
theorem wadd {i n : Nat} (h : i < n) (hn : n ≤ 9000000) : wrap64 ((i : Int) + 1) = ((i + 1 : Nat) : Int) := by rw [IntWalk.wrap64_in _ (by omega)]; omega
theorem ints_len (m : List Nat) : (ints m).length = m.length := List.length_map ..
theorem rd_ints (m : List Nat) (i : Nat) : rd (ints m) (i : Int) = ((gt m i : Nat) : Int) := by
 unfold rd ints gt
 rw [Int.toNat_natCast]
 simp only [List.getD_eq_getElem?_getD, List.getElem?_map]
 cases m[i]? <;> rfl
def roots (m : List Nat) (i : Nat) : Nat := (List.range i).countP fun j => gt m j == j
theorem roots_succ (m : List Nat) (i : Nat) : roots m (i + 1) = roots m i + if gt m i = i then 1 else 0 := by
 unfold roots
 rw [List.range_succ, List.countP_append]
 by_cases h : gt m i = i <;> simp [h]
theorem roots_le (m : List Nat) (i : Nat) : roots m i ≤ i := by
 unfold roots
 have := List.countP_le_length (p := fun j => gt m j == j) (l := List.range i)
 simpa using this
section
variable {n : Nat} {E : Nat → Nat → Prop} {m : List Nat}
theorem num_at (h : Part n E m) : ∀ k, k ≤ n → ∀ a, a < k → gt (numTo m k).1 a = roots m (gt m a) := by
 intro k
 induction k with
 | zero => intro _ a ha; omega
 | succ k ih =>
   intro hk a ha
   have hl := numTo_length m k
   have hle := h.le k (by omega)
   have hcn := numTo_sets h k (by omega)
   unfold numTo
   by_cases c : gt m k < k
   · rw [if_pos c]
     rcases Nat.lt_or_ge a k with h1 | h1
     · rw [gt_snoc_lt (by omega), ih (by omega) a h1]
     · obtain rfl : a = k := by omega
       rw [gt_snoc_eq (by omega), ih (by omega) _ c, h.idem (by omega)]
   · rw [if_neg c]
     rcases Nat.lt_or_ge a k with h1 | h1
     · rw [gt_snoc_lt (by omega), ih (by omega) a h1]
     · obtain rfl : a = k := by omega
       rw [gt_snoc_eq (by omega), hcn, show gt m a = a by omega]
       rfl
theorem roots_mono (m : List Nat) {a b : Nat} (h : a ≤ b) : roots m a ≤ roots m b := by
 induction b with
 | zero => obtain rfl : a = 0 := by omega
           exact Nat.le_refl _
 | succ b ih =>
   rcases Nat.lt_or_ge a (b + 1) with h1 | h1
   · have := ih (by omega)
     rw [roots_succ]; omega
   · obtain rfl : a = b + 1 := by omega
     exact Nat.le_refl _
theorem roots_inj (m : List Nat) {a b : Nat} (ha : gt m a = a) (hb : gt m b = b) (h : roots m a = roots m b) : a = b := by
 rcases Nat.lt_trichotomy a b with c | c | c
 · have h1 := roots_mono m (show a + 1 ≤ b by omega)
   rw [roots_succ, if_pos ha] at h1; omega
 · exact c
 · have h1 := roots_mono m (show b + 1 ≤ a by omega)
   rw [roots_succ, if_pos hb] at h1; omega
theorem roots_lt {i : Nat} (hi : i < n) (hr : gt m i = i) : roots m i < roots m n := by
 have h1 := roots_mono m (show i + 1 ≤ n by omega)
 rw [roots_succ, if_pos hr] at h1; omega
end
end Go.Proofs.Ytmikcfddipldnaa.PureR
namespace Go.Proofs.Ytmikcfddipldnaa.Rot
open Go.RowKit Go.Proofs.YtmikcfddipldnaaW.PrintWords Go.Proofs.YtmikcfddipldnaaW.PrintLast Go.Proofs.YtmikcfddipldnaaW.PrintMore Go.Proofs.Ytmikcfddipldnaa.GAll Go.Proofs.Ytmikcfddipldnaa.Mem Go.Proofs.Ytmikcfddipldnaa.Ring Go.Proofs.Ytmikcfddipldnaa.Face
set_option linter.unusedVariables false
set_option linter.unusedSimpArgs false
def parT (n : Nat) (l : List Ed) (t : Nat) : List Nat := Sets.joinAll (List.range n) ((ends l).take t)
section
variable {n : Nat} {l : List Ed} {r : List (List Int)}
theorem parT_part (n : Nat) (l : List Ed) (t : Nat) : Sets.Part n (Sets.EP n ((ends l).take t)) (parT n l t) := Sets.joinAll_part n _
theorem ends_in (hg : PureV.Good (n : Int) l) {t : Nat} (ht : t < l.length) : ∃ u v : Nat, (Sets.pe (ends l) t) = ((u : Int), (v : Int)) ∧ u < n ∧ v < n ∧ u ≠ v ∧ gi (frs l) (2 * t) = (u : Int) ∧ gi (frs l) (2 * t + 1) = (v : Int) := by
 obtain ⟨⟨a, b, c⟩, _⟩ := hg.2.2.2 t ht
 have e : Sets.pe (ends l) t = ((PureV.rdE l (t : Nat)).f0, (PureV.rdE l (t : Nat)).f1) := pe_ends ht
 refine ⟨(PureV.rdE l (t : Nat)).f0.toNat, (PureV.rdE l (t : Nat)).f1.toNat, ?_, by omega, by omega, by omega, ?_, ?_⟩
 · rw [e, Int.toNat_of_nonneg (by omega), Int.toNat_of_nonneg (by omega)]
 · rw [frs_even ht, Int.toNat_of_nonneg (by omega)]
 · rw [frs_odd ht, Int.toNat_of_nonneg (by omega)]
theorem parT_succ (n : Nat) (l : List Ed) {t : Nat} (ht : t < l.length) : parT n l (t + 1) = (Sets.joinOf (parT n l t) (Sets.pe (ends l) t).1 (Sets.pe (ends l) t).2).1 := Sets.joinAll_take _ _ (by rw [ends_length]; exact ht)
theorem bound (hm : IsMap n l r) : ∀ t, t ≤ l.length → ∃ L', Dec (upTo (nxf l r) t) L' ∧ L'.flatten.Perm (full (rowsN r)).flatten ∧ Within (fun h => Sets.gt (parT n l t) (gi (frs l) h).toNat) L' ∧ L'.length + 2 * n ≤ (full (rowsN r)).length + t + 2 * Sets.sets (parT n l t)
 | 0, _ => by
   refine ⟨full (rowsN r), by rw [upTo_zero]; exact hm.dec.1, List.Perm.refl _, fun L hL x hx y hy => ?_, ?_⟩
   · unfold full at hL
     rw [List.mem_filter] at hL
     obtain ⟨row, hrow, rfl⟩ := List.mem_map.1 hL.1
     obtain ⟨v, hv, rfl⟩ := gl_ge hrow
     have hvn : v < n := by have := hm.rot.len; omega
     have h1 := (hm.row_at hvn).1 hx
     have h2 := (hm.row_at hvn).1 hy
     simp only [h1.2, h2.2]
   · have e : Sets.sets (parT n l 0) = n := by
       have h := (Sets.sets_yes n (ends l) 0 (Nat.zero_le _))
       have h2 : Sets.yesTo (List.range n) (ends l) 0 = 0 := rfl
       rw [h2] at h
       exact h
     rw [e]; omega
 | t + 1, ht => by
   obtain ⟨L1, d1, d2, d3, d4⟩ := bound hm t (by omega)
   obtain ⟨u, v, epe, hu, hv, huv, e1, e2⟩ := ends_in hm.good (t := t) (by omega)
   have hP := parT_part n l t
   have hs := Sets.sets_join hP (Sets.pe (ends l) t).1 (Sets.pe (ends l) t).2
   have hsu := parT_succ n l (t := t) (by omega)
   rw [epe] at hs hsu
   simp only at hs hsu
   have ha : 2 * t ∈ L1.flatten := by rw [d2.mem_iff, full_flatten, hm.rows_flat.2]; omega
   have hb : 2 * t + 1 ∈ L1.flatten := by rw [d2.mem_iff, full_flatten, hm.rows_flat.2]; omega
   obtain ⟨L2, k1, k2, k3, k4⟩ := d1.swap (g := upTo (nxf l r) (t + 1)) ha hb (by omega) (upTo_a _ t) (upTo_b _ t) (upTo_other _ t)
   have hlen := hP.len
   by_cases c : Sets.gt (parT n l t) u = Sets.gt (parT n l t) v
   · rw [Sets.joinOf_same c] at hs hsu
     simp only [Bool.false_eq_true, if_false, Nat.add_zero] at hs hsu
     rw [hsu]
     refine ⟨L2, k1, k2.trans d2, k3 _ ?_ d3, ?_⟩
     · simp only [e1, e2, Int.toNat_natCast]; exact c
     · rcases k4 with ⟨k4, _⟩ | k4 <;> omega
   · have ej := Sets.joinOf_two (m := parT n l t) (a := u) (b := v) (by omega) (by omega) c
     rw [ej] at hs hsu
     simp only [if_true] at hs hsu
     have hno : L2.length + 1 = L1.length := by
       rcases k4 with ⟨_, q, hq, q1, q2⟩ | k4
       · have := d3 q hq (2 * t) q1 (2 * t + 1) q2
         simp only [e1, e2, Int.toNat_natCast] at this
         exact absurd this c
       · exact k4
     have hgl : ∀ i, i < n → Sets.gt (parT n l (t + 1)) i = if Sets.gt (parT n l t) i = max (Sets.gt (parT n l t) u) (Sets.gt (parT n l t) v) then min (Sets.gt (parT n l t) u) (Sets.gt (parT n l t) v) else Sets.gt (parT n l t) i := fun i hi => by
       rw [hsu]; exact Sets.glue_get _ _ _ (by omega)
     have hin : ∀ x, x ∈ L1.flatten → (gi (frs l) x).toNat < n := fun x hx => by
       rw [d2.mem_iff, full_flatten, hm.rows_flat.2] at hx
       have := frs_range hm.good hx
       omega
     refine ⟨L2, k1, k2.trans d2, k3 _ ?_ (fun q hq x hx y hy => ?_), ?_⟩
     · simp only [e1, e2, Int.toNat_natCast]
       rw [hgl u hu, hgl v hv]
       rcases Nat.le_total (Sets.gt (parT n l t) u) (Sets.gt (parT n l t) v) with q | q
       · rw [Nat.max_eq_right q, Nat.min_eq_left q, if_neg c, if_pos rfl]
       · rw [Nat.max_eq_left q, Nat.min_eq_right q, if_pos rfl, if_neg (fun e => c e.symm)]
     · have h3 := d3 q hq x hx y hy
       simp only at h3 ⊢
       rw [hgl _ (hin x (List.mem_flatten.2 ⟨q, hq, hx⟩)), hgl _ (hin y (List.mem_flatten.2 ⟨q, hq, hy⟩)), h3]
     · rw [← hsu] at hs
       omega
def lone (r : List (List Int)) : Nat := r.countP fun row => row.isEmpty
theorem full_length (r : List (List Int)) : (full (rowsN r)).length + lone r = r.length := by
 unfold full rowsN lone
 rw [← List.countP_eq_length_filter, List.countP_map]
 have h := List.length_eq_countP_add_countP (fun row : List Int => row.isEmpty) (l := r)
 have e : List.countP ((fun l => !l.isEmpty) ∘ fN) r = List.countP (fun a => ¬ (a.isEmpty = true)) r := List.countP_congr fun x _ => by
   cases x <;> simp [fN]
 rw [e]
 omega
theorem parT_all (n : Nat) (l : List Ed) : parT n l l.length = Sets.joinAll (List.range n) (ends l) := by
 unfold parT
 rw [List.take_of_length_le (by rw [ends_length]; exact Nat.le_refl _)]
theorem faces_le (hm : IsMap n l r) {F : List (List Nat)} (hF : Faces (stf l r) (2 * l.length) F) : F.length + lone r + n ≤ l.length + 2 * Sets.sets (parT n l l.length) := by
 obtain ⟨L', d1, d2, _, d4⟩ := bound hm l.length (Nat.le_refl _)
 have h1 := full_length r
 rw [hm.rot.len] at h1
 have h2 := (Dec.unique (fun _ => ()) (fun _ _ _ => rfl) F L' hF.dec d1 (hF.perm.trans (d2.trans hm.dec.2).symm)).length_eq
 rw [List.length_map, List.length_map] at h2
 omega
theorem nth_class {f : Nat → Nat} {l : List Nat} {c : Nat → Nat} (h : Ring f l) (hc : ∀ x ∈ l, c (f x) = c x) {x : Nat} (hx : x ∈ l) : ∀ k, c (Ring.nth f x k) = c x
 | 0 => rfl
 | k + 1 => by
   show c (f (Ring.nth f x k)) = c x
   rw [hc _ (h.nth hx k), nth_class h hc hx k]
theorem ring_class {f : Nat → Nat} {l : List Nat} {c : Nat → Nat} (h : Ring f l) (hc : ∀ x ∈ l, c (f x) = c x) : ∀ x ∈ l, c x = c (l.headD 0) := by
 intro x hx
 cases l with
 | nil => cases hx
 | cons a t =>
   have h2 := ring_cons.1 h
   obtain ⟨k, rfl⟩ := lead_nth t a h2 x hx
   exact nth_class h hc (List.mem_cons_self ..) k
def pick (c : Nat → Nat) (k : Nat) (L : List (List Nat)) : List (List Nat) := L.filter fun l => c (l.headD 0) == k
theorem flatten_filter_sub (p : List Nat → Bool) : ∀ L : List (List Nat), (L.filter p).flatten.Sublist L.flatten
 | [] => List.Sublist.slnil
 | a :: L => by
   have ih := flatten_filter_sub p L
   rw [List.filter_cons]
   split
   · rw [List.flatten_cons, List.flatten_cons]
     exact (List.Sublist.refl a).append ih
   · rw [List.flatten_cons]
     exact ih.trans (List.sublist_append_right a _)
theorem pick_dec {f : Nat → Nat} {c : Nat → Nat} {k : Nat} {L : List (List Nat)} (h : Dec f L) : Dec f (pick c k L) := by
 refine ⟨fun l hl => h.ring l (List.mem_filter.1 hl).1, ?_⟩
 exact List.Nodup.sublist (flatten_filter_sub _ L) h.nodup
theorem pick_mem {f : Nat → Nat} {c : Nat → Nat} {k : Nat} {L : List (List Nat)} (h : Dec f L) (hc : ∀ x ∈ L.flatten, c (f x) = c x) (x : Nat) : x ∈ (pick c k L).flatten ↔ x ∈ L.flatten ∧ c x = k := by
 rw [List.mem_flatten, List.mem_flatten]
 constructor
 · rintro ⟨l, hl, hx⟩
   obtain ⟨h1, h2⟩ := List.mem_filter.1 hl
   refine ⟨⟨l, h1, hx⟩, ?_⟩
   rw [ring_class (h.ring l h1) (fun y hy => hc y (List.mem_flatten.2 ⟨l, h1, hy⟩)) x hx]
   simpa using h2
 · rintro ⟨⟨l, h1, hx⟩, h2⟩
   refine ⟨l, List.mem_filter.2 ⟨h1, ?_⟩, hx⟩
   rw [ring_class (h.ring l h1) (fun y hy => hc y (List.mem_flatten.2 ⟨l, h1, hy⟩)) x hx] at h2
   simpa using h2
structure Cls (n : Nat) (l : List Ed) (c : Nat → Nat) (cv : Nat → Nat) : Prop where
 half : ∀ h, h < 2 * l.length → c h = cv (gi (frs l) h).toNat
 edge : ∀ e, e < l.length → c (2 * e) = c (2 * e + 1)
theorem Cls.twn {c cv : Nat → Nat} (hc : Cls n l c cv) {h : Nat} (hh : h < 2 * l.length) : c (Ring.twn h) = c h := by
 unfold Ring.twn
 split
 · have e : h = 2 * (h / 2) := by omega
   have := hc.edge (h / 2) (by omega)
   rw [← e] at this
   exact this.symm
 · have e : h - 1 = 2 * (h / 2) := by omega
   have e2 : h = 2 * (h / 2) + 1 := by omega
   have := hc.edge (h / 2) (by omega)
   rw [← e2, ← e] at this
   exact this
theorem Cls.nxf {c cv : Nat → Nat} (hc : Cls n l c cv) (hm : IsMap n l r) {h : Nat} (hh : h < 2 * l.length) : c (Rot.nxf l r h) = c h := by
 have h1 := next_in hm.rot (nxOf_next hm.rot) (frs_in hm.good) (x := h) (by rw [frs_length]; exact hh)
 rw [frs_length, hm.nxf_eq hh, Int.toNat_natCast] at h1
 rw [hc.half _ (by omega), hc.half h hh, h1.2.2]
theorem Cls.stf {c cv : Nat → Nat} (hc : Cls n l c cv) (hm : IsMap n l r) {h : Nat} (hh : h < 2 * l.length) : c (Rot.stf l r h) = c h := by
 rw [stf_eq hh, hc.nxf hm (twn_lt hh), hc.twn hh]
theorem class_even (hm : IsMap n l r) {F : List (List Nat)} (hF : Faces (stf l r) (2 * l.length) F) {c cv : Nat → Nat} (hc : Cls n l c cv) (k : Nat) :
   ((pick c k F).length + (pick c k (full (rowsN r))).length + (List.range l.length).countP (fun e => c (2 * e) == k)) % 2 = 0 := by
 have hd := hm.dec
 have m1 : ∀ x, x ∈ (full (rowsN r)).flatten ↔ x < 2 * l.length := fun x => by rw [full_flatten, hm.rows_flat.2]
 have p1 := fun x => pick_mem (c := c) (k := k) hd.1 (fun x hx => hc.nxf hm ((m1 x).1 hx)) x
 obtain ⟨L', d1, d2, d3, _⟩ := parity (pick_dec (c := c) (k := k) hd.1) (fun e => by
   rw [p1, p1, m1, m1]
   constructor
   · rintro ⟨a, b⟩
     exact ⟨by omega, by rw [← hc.edge e (by omega)]; exact b⟩
   · rintro ⟨a, b⟩
     exact ⟨by omega, by rw [hc.edge e (by omega)]; exact b⟩) l.length
 have m2 : ∀ x, x ∈ F.flatten ↔ x < 2 * l.length := fun x => by rw [hF.perm.mem_iff, List.mem_range]
 have p2 := fun x => pick_mem (c := c) (k := k) hF.dec (fun x hx => hc.stf hm ((m2 x).1 hx)) x
 have hp : (pick c k F).flatten.Perm L'.flatten := by
   refine perm_of_same (pick_dec hF.dec).nodup d1.nodup (fun x => ?_)
   rw [p2, d2.mem_iff, p1, m1, m2]
 have h2 := (Dec.unique (fun _ => ()) (fun _ _ _ => rfl) (pick c k F) L' (pick_dec hF.dec) d1 hp).length_eq
 rw [List.length_map, List.length_map] at h2
 have h3 : inn (pick c k (full (rowsN r))).flatten l.length = (List.range l.length).countP (fun e => c (2 * e) == k) := by
   unfold inn
   refine List.countP_congr fun e he => ?_
   rw [List.mem_range] at he
   rw [decide_eq_true_eq, p1, m1, beq_iff_eq]
   exact ⟨fun q => q.2, fun q => ⟨by omega, q⟩⟩
 rw [h3] at d3
 omega
end
end Go.Proofs.Ytmikcfddipldnaa.Rot
namespace Go.Proofs.Ytmikcfddipldnaa.Rot
open Go.RowKit Go.Proofs.YtmikcfddipldnaaW.PrintWords Go.Proofs.YtmikcfddipldnaaW.PrintLast Go.Proofs.YtmikcfddipldnaaW.PrintMore Go.Proofs.Ytmikcfddipldnaa.GAll Go.Proofs.Ytmikcfddipldnaa.Mem Go.Proofs.Ytmikcfddipldnaa.Ring Go.Proofs.Ytmikcfddipldnaa.Face
set_option linter.unusedVariables false
set_option linter.unusedSimpArgs false
theorem sum_ite (c : Nat) {a : Nat} (h : a < c) : ((List.range c).map fun k => if a = k then (1 : Int) else 0).sum = 1 := by
 induction c with
 | zero => omega
 | succ c ih =>
   rw [List.range_succ, List.map_append, List.sum_append]
   by_cases e : a = c
   · subst e
     have h0 : ((List.range a).map fun k => if a = k then (1 : Int) else 0).sum = 0 := by
       have : (List.range a).map (fun k => if a = k then (1 : Int) else 0) = (List.range a).map fun _ => (0 : Int) := List.map_congr_left fun k hk => by
         rw [List.mem_range] at hk
         exact if_neg (by omega)
       rw [this]
       clear this ih h
       induction a with
       | zero => rfl
       | succ a ih => rw [List.range_succ, List.map_append, List.sum_append, ih]; rfl
     rw [h0]; simp
   · rw [ih (by omega)]; simp [e]
theorem sum_add (c : Nat) (f g : Nat → Int) : ((List.range c).map fun k => f k + g k).sum = ((List.range c).map f).sum + ((List.range c).map g).sum := by
 induction c with
 | zero => rfl
 | succ c ih => rw [List.range_succ, List.map_append, List.map_append, List.map_append, List.sum_append, List.sum_append, List.sum_append, ih]; simp; omega
theorem sum_congr {c : Nat} {f g : Nat → Int} (h : ∀ k, k < c → f k = g k) : ((List.range c).map f).sum = ((List.range c).map g).sum := by
 congr 1
 exact List.map_congr_left fun k hk => h k (List.mem_range.1 hk)
theorem sum_zero (c : Nat) : ((List.range c).map fun _ => (0 : Int)).sum = 0 := by
 induction c with
 | zero => rfl
 | succ c ih => rw [List.range_succ, List.map_append, List.sum_append, ih]; rfl
theorem sum_count {α : Type} (c : Nat) (g : α → Nat) : ∀ L : List α, (∀ x ∈ L, g x < c) → ((List.range c).map fun k => ((L.countP fun x => g x == k : Nat) : Int)).sum = L.length
 | [], _ => by
   simp only [List.countP_nil, List.length_nil]
   exact sum_zero c
 | a :: L, h => by
   have ih := sum_count c g L (fun x hx => h x (List.mem_cons_of_mem _ hx))
   have e : ∀ k, k < c → (((a :: L).countP fun x => g x == k : Nat) : Int) = ((L.countP fun x => g x == k : Nat) : Int) + (if g a = k then (1 : Int) else 0) := fun k _ => by
     rw [List.countP_cons]
     by_cases q : g a = k
     · simp [q]
     · simp [q]
   rw [sum_congr e, sum_add, ih, sum_ite c (h a (List.mem_cons_self ..))]
   simp
def num (P : List Nat) (v : Nat) : Nat := PureR.roots P (Sets.gt P v)
theorem roots_onto (P : List Nat) : ∀ n k, k < PureR.roots P n → ∃ i, i < n ∧ Sets.gt P i = i ∧ PureR.roots P i = k
 | 0, k, h => by simp [PureR.roots] at h
 | n + 1, k, h => by
   rw [PureR.roots_succ] at h
   by_cases c : k < PureR.roots P n
   · obtain ⟨i, h1, h2⟩ := roots_onto P n k c
     exact ⟨i, by omega, h2⟩
   · by_cases e : Sets.gt P n = n
     · rw [if_pos e] at h
       exact ⟨n, by omega, e, by omega⟩
     · rw [if_neg e] at h; omega
structure IsComp (n : Nat) (l : List Ed) (r : List (List Int)) (og : List Int) (c : Nat) : Prop where
 len : og.length = n
 key : ∀ k, k ∈ og ↔ 0 ≤ k ∧ k < (c : Int)
 edge : ∀ e, e < l.length → gi og (gi (frs l) (2 * e)).toNat = gi og (gi (frs l) (2 * e + 1)).toNat
 two : ∀ v w, v < n → w < n → v ≠ w → gi og v = gi og w → gl r v ≠ []
section
variable {n : Nat} {l : List Ed} {r : List (List Int)}
def ogOf (n : Nat) (l : List Ed) : List Int := (comps_Of.out (n : Int) l).1.map fun (x : Nat) => (x : Int)
theorem out_eq (n : Nat) (l : List Ed) : comps_Of.out (n : Int) l = Sets.numTo (parT n l l.length) n := by
 rw [parT_all]
 unfold comps_Of.out
 rw [Int.toNat_natCast]
 rfl
theorem parts_sets (n : Nat) (l : List Ed) : parts n l = Sets.sets (parT n l l.length) := by
 unfold parts
 rw [out_eq]
 have h := parT_part n l l.length
 have := Sets.numTo_all h
 rw [h.len] at this
 exact this
theorem parts_roots (n : Nat) (l : List Ed) : parts n l = PureR.roots (parT n l l.length) n := by
 unfold parts
 rw [out_eq]
 exact Sets.numTo_sets (parT_part n l l.length) n (Nat.le_refl _)
theorem gi_og {v : Nat} (hv : v < n) : gi (ogOf n l) v = (num (parT n l l.length) v : Int) := by
 have h := PureR.num_at (parT_part n l l.length) n (Nat.le_refl _) v hv
 have hl := Sets.numTo_length (parT n l l.length) n
 unfold ogOf
 rw [out_eq]
 unfold num
 rw [← h]
 unfold gi Sets.gt
 rw [List.getD_eq_getElem?_getD, List.getD_eq_getElem?_getD, List.getElem?_map, List.getElem?_eq_getElem (by rw [hl]; exact hv)]
 rfl
theorem conn_edge {es : List (Int × Int)} {v w : Nat} (h : Sets.Conn (Sets.EP n es) v w) : v = w ∨ ∃ x, Sets.EP n es v x ∨ Sets.EP n es x v := by
 induction h with
 | refl => exact .inl rfl
 | fwd _ e ih =>
   rcases ih with rfl | ih
   · exact .inr ⟨_, .inl e⟩
   · exact .inr ih
 | bwd _ e ih =>
   rcases ih with rfl | ih
   · exact .inr ⟨_, .inr e⟩
   · exact .inr ih
theorem IsMap.row_ne (hm : IsMap n l r) {v h : Nat} (hv : v < n) (hh : h < 2 * l.length) (e : gi (frs l) h = (v : Int)) : gl r v ≠ [] := by
 intro q
 have := (hm.row_at hv).2 ⟨hh, e⟩
 rw [q] at this
 cases this
theorem IsMap.row_of (hm : IsMap n l r) {v : Nat} (hv : v < n) (h : gl r v ≠ []) : ∃ h, h < 2 * l.length ∧ gi (frs l) h = (v : Int) := by
 obtain ⟨x, hx⟩ := List.exists_mem_of_ne_nil (fN (gl r v)) (by unfold fN; simpa using h)
 exact ⟨x, (hm.row_at hv).1 hx⟩
theorem IsMap.comp (hm : IsMap n l r) : IsComp n l r (ogOf n l) (parts n l) := by
 have hP := parT_part n l l.length
 rw [List.take_of_length_le (by rw [ends_length]; exact Nat.le_refl _)] at hP
 have hlen : (ogOf n l).length = n := by unfold ogOf; rw [List.length_map, out_eq]; exact Sets.numTo_length _ _
 refine ⟨hlen, fun k => ⟨fun hk => ?_, fun hk => ?_⟩, fun e he => ?_, fun v w hv hw hne e => ?_⟩
 · obtain ⟨v, hv, rfl⟩ := List.getElem_of_mem hk
   have hvn : v < n := by omega
   have e : (ogOf n l)[v] = gi (ogOf n l) v := (gi_get0 hv).symm
   rw [e, gi_og hvn, parts_roots]
   have := PureR.roots_lt (n := n) (m := parT n l l.length) (hP.lt hvn) (hP.idem hvn)
   unfold num
   omega
 · obtain ⟨j, rfl⟩ := Int.eq_ofNat_of_zero_le hk.1
   have hj : j < PureR.roots (parT n l l.length) n := by rw [← parts_roots]; omega
   obtain ⟨i, h1, h2, h3⟩ := roots_onto _ n j hj
   have e : (j : Int) = gi (ogOf n l) i := by rw [gi_og h1]; unfold num; rw [h2, h3]
   rw [e, gi_get0 (by omega)]
   exact List.getElem_mem _
 · obtain ⟨u, v, epe, hu, hv, huv, e1, e2⟩ := ends_in hm.good he
   rw [e1, e2, Int.toNat_natCast, Int.toNat_natCast, gi_og hu, gi_og hv]
   have : Sets.EP n (ends l) u v := ⟨hu, hv, by rw [← epe]; exact Sets.pe_mem (by rw [ends_length]; exact he)⟩
   unfold num
   rw [hP.edge u v this]
 · rw [gi_og hv, gi_og hw] at e
   have h1 := PureR.roots_inj (parT n l l.length) (hP.idem hv) (hP.idem hw) (by unfold num at e; omega)
   rcases conn_edge ((hP.iff hv hw).1 h1) with q | ⟨x, q | q⟩
   · exact absurd q hne
   · obtain ⟨_, hx, hmem⟩ := q
     obtain ⟨j, hj, ej⟩ := Sets.mem_pe hmem
     rw [ends_length] at hj
     obtain ⟨u, v', epe, hu, hv', huv, e1, e2⟩ := ends_in hm.good hj
     rw [ej] at epe
     simp only [Prod.mk.injEq] at epe
     exact hm.row_ne hv (h := 2 * j) (by omega) (by rw [e1]; omega)
   · obtain ⟨hx, _, hmem⟩ := q
     obtain ⟨j, hj, ej⟩ := Sets.mem_pe hmem
     rw [ends_length] at hj
     obtain ⟨u, v', epe, hu, hv', huv, e1, e2⟩ := ends_in hm.good hj
     rw [ej] at epe
     simp only [Prod.mk.injEq] at epe
     exact hm.row_ne hv (h := 2 * j + 1) (by omega) (by rw [e2]; omega)
def cv (og : List Int) (v : Nat) : Nat := (gi og v).toNat
def ch (og : List Int) (l : List Ed) (h : Nat) : Nat := cv og (gi (frs l) h).toNat
theorem IsComp.cls {og : List Int} {c : Nat} (h : IsComp n l r og c) : Cls n l (ch og l) (cv og) := ⟨fun _ _ => rfl, fun e he => by unfold ch cv; rw [h.edge e he]⟩
theorem IsComp.cv {og : List Int} {c : Nat} (h : IsComp n l r og c) {v : Nat} (hv : v < n) : gi og v = (cv og v : Int) ∧ cv og v < c := by
 have h1 : gi og v ∈ og := by rw [gi_get0 (by rw [h.len]; exact hv)]; exact List.getElem_mem _
 have := (h.key _).1 h1
 unfold Rot.cv
 omega
theorem pe_frs {j : Nat} (hj : j < l.length) : (pe (ends l) j).1 = gi (frs l) (2 * j) := by rw [pe_ends hj, frs_even hj]
theorem countP_range_map {α : Type} (L : List α) (d : α) (p : α → Bool) : L.countP p = (List.range L.length).countP fun i => p (L.getD i d) := by
 have e : L = (List.range L.length).map fun i => L.getD i d := by
   apply List.ext_getElem
   · simp
   · intro i h1 h2
     simp [List.getD_eq_getElem?_getD, h1]
 conv => lhs; rw [e]
 rw [List.countP_map]
 rfl
theorem IsComp.ni {og : List Int} {c : Nat} (h : IsComp n l r og c) (k : Nat) : Cnt.cntTo og og.length (k : Int) = ((List.range n).countP fun v => Rot.cv og v == k : Nat) := by
 unfold Cnt.cntTo
 rw [List.take_length, countP_range_map og 0, h.len]
 congr 1
 refine List.countP_congr fun v hv => ?_
 rw [List.mem_range] at hv
 have := (h.cv hv).1
 show (gi og v == (k : Int)) = true ↔ _
 rw [this, beq_iff_eq, beq_iff_eq]
 omega
theorem IsComp.mi {og : List Int} {c : Nat} (h : IsComp n l r og c) (hm : IsMap n l r) (k : Nat) : Cnt.cntTo (Cnt.ksE og (ends l)) (ends l).length (k : Int) = ((List.range l.length).countP fun e => ch og l (2 * e) == k : Nat) := by
 unfold Cnt.cntTo
 have e : (Cnt.ksE og (ends l)).length = (ends l).length := by unfold Cnt.ksE; simp
 rw [List.take_of_length_le (by omega), countP_range_map _ 0, e, ends_length]
 congr 1
 refine List.countP_congr fun j hj => ?_
 rw [List.mem_range] at hj
 have h1 := frs_range hm.good (h := 2 * j) (by omega)
 have h2 := (h.cv (v := (gi (frs l) (2 * j)).toNat) (by omega)).1
 have h3 := Cnt.gi_ksE og (ends l) (j := j) (by rw [ends_length]; exact hj)
 show (gi (Cnt.ksE og (ends l)) j == (k : Int)) = true ↔ _
 rw [h3, pe_frs hj, h2, beq_iff_eq, beq_iff_eq]
 unfold ch
 omega
theorem IsComp.fi {og : List Int} {c : Nat} (h : IsComp n l r og c) (hm : IsMap n l r) {F : List (List Nat)} (hF : Faces (stf l r) (2 * l.length) F) (k : Nat) : Cnt.cntTo (Cnt.ksF og (ends l) (F.map zN)) (F.map zN).length (k : Int) = (F.countP fun L => ch og l (L.headD 0) == k : Nat) := by
 unfold Cnt.cntTo Cnt.ksF
 rw [List.take_of_length_le (by simp), List.map_map, List.countP_map]
 congr 1
 refine List.countP_congr fun L hL => ?_
 have hr := hF.dec.ring L hL
 have hx : L.headD 0 ∈ L := by
   cases L with
   | nil => exact absurd rfl hr.1
   | cons a t => simp
 have hlt : L.headD 0 < 2 * l.length := by
   have := hF.perm.mem_iff.1 (List.mem_flatten.2 ⟨L, hL, hx⟩)
   rw [List.mem_range] at this
   exact this
 have e0 : gi (zN L) 0 = (L.headD 0 : Int) := by
   cases L with
   | nil => exact absurd rfl hr.1
   | cons a t => rfl
 have hj : L.headD 0 / 2 < l.length := by omega
 have h1 := frs_range hm.good (h := 2 * (L.headD 0 / 2)) (by omega)
 have h2 := (h.cv (v := (gi (frs l) (2 * (L.headD 0 / 2))).toNat) (by omega)).1
 have h3 : ch og l (2 * (L.headD 0 / 2)) = ch og l (L.headD 0) := by
   rcases Nat.mod_two_eq_zero_or_one (L.headD 0) with q | q
   · rw [show 2 * (L.headD 0 / 2) = L.headD 0 by omega]
   · have := h.cls.edge _ hj
     rw [show 2 * (L.headD 0 / 2) + 1 = L.headD 0 by omega] at this
     exact this
 show (gi og (pe (ends l) ((gi (zN L) 0).toNat / 2)).1.toNat == (k : Int)) = true ↔ _
 rw [e0, Int.toNat_natCast, pe_frs hj, h2, ← h3, beq_iff_eq, beq_iff_eq]
 unfold ch
 omega
theorem pick_rows (hm : IsMap n l r) (og : List Int) (k : Nat) : (pick (ch og l) k (full (rowsN r))).length + (List.range n).countP (fun v => (gl r v).isEmpty && (Rot.cv og v == k)) = (List.range n).countP (fun v => Rot.cv og v == k) := by
 have h1 : (pick (ch og l) k (full (rowsN r))).length = (List.range n).countP (fun v => !(gl r v).isEmpty && (Rot.cv og v == k)) := by
   unfold pick full rowsN
   rw [List.filter_filter, ← List.countP_eq_length_filter, List.countP_map, countP_range_map r [], hm.rot.len]
   refine List.countP_congr fun v hv => ?_
   rw [List.mem_range] at hv
   show ((ch og l ((fN (gl r v)).headD 0) == k) && !(fN (gl r v)).isEmpty) = true ↔ _
   cases hrow : gl r v with
   | nil => simp [fN]
   | cons x t =>
     have hx : x.toNat ∈ fN (gl r v) := by rw [hrow]; simp [fN]
     have := ((hm.row_at hv).1 hx).2
     have e : ch og l ((fN (x :: t)).headD 0) = Rot.cv og v := by
       show Rot.cv og (gi (frs l) x.toNat).toNat = _
       rw [this, Int.toNat_natCast]
     rw [e]
     simp [fN]
 rw [h1]
 have key : ∀ L : List Nat, L.countP (fun v => !(gl r v).isEmpty && (Rot.cv og v == k)) + L.countP (fun v => (gl r v).isEmpty && (Rot.cv og v == k)) = L.countP (fun v => Rot.cv og v == k) := by
   intro L
   induction L with
   | nil => rfl
   | cons a L ih =>
     rw [List.countP_cons, List.countP_cons, List.countP_cons]
     cases (gl r a).isEmpty <;> cases (Rot.cv og a == k) <;> simp <;> omega
 exact key _
theorem countP_pos {α : Type} {p : α → Bool} {L : List α} : 0 < L.countP p ↔ ∃ x ∈ L, p x = true := List.countP_pos_iff
theorem countP_le_one {p : Nat → Bool} : ∀ (L : List Nat), L.Nodup → (∀ x ∈ L, ∀ y ∈ L, p x = true → p y = true → x = y) → L.countP p ≤ 1
 | [], _, _ => by simp
 | a :: L, hn, h => by
   rw [List.nodup_cons] at hn
   have ih := countP_le_one L hn.2 (fun x hx y hy => h x (List.mem_cons_of_mem _ hx) y (List.mem_cons_of_mem _ hy))
   rw [List.countP_cons]
   by_cases c : p a = true
   · have h0 : L.countP p = 0 := by
       rw [List.countP_eq_zero]
       intro x hx hp
       have := h a (List.mem_cons_self ..) x (List.mem_cons_of_mem _ hx) c hp
       exact hn.1 (by rw [this]; exact hx)
     rw [h0, if_pos c]
     exact Nat.le_refl _
   · rw [if_neg c]; omega
theorem IsComp.one {og : List Int} {c : Nat} (h : IsComp n l r og c) (hm : IsMap n l r) {F : List (List Nat)} (hF : Faces (stf l r) (2 * l.length) F) {k : Nat} (hk : k < c) {ni mi fi ii : Nat}
   (h1 : ni = (List.range n).countP fun v => Rot.cv og v == k) (h2 : mi = (List.range l.length).countP fun e => ch og l (2 * e) == k) (h3 : fi = F.countP fun L => ch og l (L.headD 0) == k) (h4 : ii = (List.range n).countP fun v => (gl r v).isEmpty && (Rot.cv og v == k)) :
   2 * Cnt.term (ni : Int) (mi : Int) (fi : Int) = 2 - (ni : Int) + mi - fi - ii := by
 have hev := class_even hm hF h.cls k
 have hpr := pick_rows hm og k
 have hpf : (pick (ch og l) k F).length = fi := by rw [h3]; unfold pick; rw [← List.countP_eq_length_filter]
 rw [hpf, ← h2] at hev
 rw [← h4, ← h1] at hpr
 have hedge : ∀ x, x < 2 * l.length → ch og l x = k → 0 < mi := fun x hx e => by
   rw [h2, countP_pos]
   refine ⟨x / 2, by rw [List.mem_range]; omega, ?_⟩
   rw [beq_iff_eq, ← e]
   rcases Nat.mod_two_eq_zero_or_one x with q | q
   · rw [show 2 * (x / 2) = x by omega]
   · have := h.cls.edge (x / 2) (by omega)
     rw [show 2 * (x / 2) + 1 = x by omega] at this
     exact this
 have hrow : ∀ v, v < n → Rot.cv og v = k → gl r v ≠ [] → 0 < mi := fun v hv e hne => by
   obtain ⟨x, hx, ex⟩ := hm.row_of hv hne
   exact hedge x hx (by unfold ch; rw [ex, Int.toNat_natCast]; exact e)
 have htwo : ∀ v w, v < n → w < n → v ≠ w → Rot.cv og v = Rot.cv og w → gl r v ≠ [] := fun v w hv hw hne e => h.two v w hv hw hne (by rw [(h.cv hv).1, (h.cv hw).1, e])
 by_cases c0 : 0 < mi
 · have hi0 : ii = 0 := by
     rw [h4, List.countP_eq_zero]
     intro v hv
     rw [List.mem_range] at hv
     intro q
     rw [Bool.and_eq_true, beq_iff_eq, List.isEmpty_iff] at q
     rw [h2, countP_pos] at c0
     obtain ⟨e, he, ee⟩ := c0
     rw [List.mem_range] at he
     rw [beq_iff_eq] at ee
     have hfr := frs_range hm.good (h := 2 * e) (by omega)
     obtain ⟨u, hu⟩ := Int.eq_ofNat_of_zero_le hfr.1
     by_cases cu : u = v
     · subst cu
       exact hm.row_ne hv (h := 2 * e) (by omega) hu q.1
     · exact htwo v u hv (by omega) (fun x => cu x.symm) (by
         rw [q.2, ← ee]
         unfold ch
         rw [hu]; rfl) q.1
   unfold Cnt.term
   rw [if_pos (by omega), Cnt.tdiv2]
   split <;> omega
 · have hn1 : ni = 1 := by
     have hle : ni ≤ 1 := by
       rw [h1]
       refine countP_le_one _ List.nodup_range (fun x hx y hy px py => Decidable.byContradiction fun hne => ?_)
       rw [List.mem_range] at hx hy
       rw [beq_iff_eq] at px py
       exact c0 (hrow x hx px (htwo x y hx hy hne (by rw [px, py])))
     have hge : 0 < ni := by
       rw [h1, countP_pos]
       have hmem := (h.key (k : Int)).2 ⟨by omega, by omega⟩
       obtain ⟨v, hv, e⟩ := List.getElem_of_mem hmem
       rw [← gi_get0 hv] at e
       refine ⟨v, by rw [List.mem_range, ← h.len]; exact hv, ?_⟩
       rw [beq_iff_eq]
       unfold Rot.cv
       rw [e]; rfl
     omega
   have hii : ii = ni := by
     rw [h4, h1]
     refine List.countP_congr fun v hv => ?_
     rw [List.mem_range] at hv
     rw [Bool.and_eq_true, beq_iff_eq, List.isEmpty_iff]
     refine ⟨fun q => q.2, fun q => ⟨Decidable.byContradiction fun hne => c0 (hrow v hv q hne), q⟩⟩
   have hfi : fi = 0 := by
     rw [h3, List.countP_eq_zero]
     intro L hL q
     rw [beq_iff_eq] at q
     have hr := hF.dec.ring L hL
     have hx : L.headD 0 ∈ L := by
       cases L with
       | nil => exact absurd rfl hr.1
       | cons a t => simp
     have := hF.perm.mem_iff.1 (List.mem_flatten.2 ⟨L, hL, hx⟩)
     rw [List.mem_range] at this
     exact c0 (hedge _ this q)
   unfold Cnt.term
   rw [if_neg (by omega)]
   omega
theorem IsComp.lt {og : List Int} {c : Nat} (h : IsComp n l r og c) (hm : IsMap n l r) {x : Nat} (hx : x < 2 * l.length) : ch og l x < c := by
 have := frs_range hm.good hx
 exact (h.cv (v := (gi (frs l) x).toNat) (by omega)).2
theorem lone_count (hm : IsMap n l r) : lone r = (List.range n).countP fun v => (gl r v).isEmpty := by
 unfold lone
 rw [countP_range_map r [], hm.rot.len]
 rfl
theorem IsComp.twice {og : List Int} {c : Nat} (h : IsComp n l r og c) (hm : IsMap n l r) {F : List (List Nat)} (hF : Faces (stf l r) (2 * l.length) F) :
   2 * Cnt.genusSum og (ends l) (F.map zN) c = 2 * (c : Int) - n + l.length - F.length - lone r := by
 have e2 : ∀ (f : Nat → Int), 2 * ((List.range c).map f).sum = ((List.range c).map fun k => 2 * f k).sum := fun f => by
   have := sum_add c f f
   rw [show (fun k => 2 * f k) = fun k => f k + f k from funext fun k => by omega, this]
   omega
 unfold Cnt.genusSum
 rw [e2]
 have hone : ∀ k, k < c → 2 * Cnt.term (Cnt.cntTo og og.length (k : Int)) (Cnt.cntTo (Cnt.ksE og (ends l)) (ends l).length (k : Int)) (Cnt.cntTo (Cnt.ksF og (ends l) (F.map zN)) (F.map zN).length (k : Int)) =
     ((2 + -(((List.range n).countP fun v => Rot.cv og v == k : Nat) : Int)) + ((List.range l.length).countP fun e => ch og l (2 * e) == k : Nat)) + (-((F.countP fun L => ch og l (L.headD 0) == k : Nat) : Int) + -(((List.range n).countP fun v => (gl r v).isEmpty && (Rot.cv og v == k) : Nat) : Int)) := fun k hk => by
   rw [h.ni k, h.mi hm k, h.fi hm hF k, h.one hm hF hk rfl rfl rfl rfl]
   omega
 rw [sum_congr hone, sum_add, sum_add, sum_add, sum_add]
 have neg : ∀ (f : Nat → Int), ((List.range c).map fun k => -(f k)).sum = -((List.range c).map f).sum := fun f => by
   have := sum_add c (fun k => -(f k)) f
   rw [sum_congr (f := fun k => -(f k) + f k) (g := fun _ => 0) (fun k _ => by omega), sum_zero] at this
   omega
 rw [neg, neg, neg]
 have s1 := sum_count c (fun v => Rot.cv og v) (List.range n) (fun v hv => (h.cv (List.mem_range.1 hv)).2)
 have s2 := sum_count c (fun e => ch og l (2 * e)) (List.range l.length) (fun e he => h.lt hm (by rw [List.mem_range] at he; omega))
 have s3 := sum_count c (fun L : List Nat => ch og l (L.headD 0)) F (fun L hL => by
   have hr := hF.dec.ring L hL
   have hx : L.headD 0 ∈ L := by
     cases L with
     | nil => exact absurd rfl hr.1
     | cons a t => simp
   have := hF.perm.mem_iff.1 (List.mem_flatten.2 ⟨L, hL, hx⟩)
   rw [List.mem_range] at this
   exact h.lt hm this)
 have s4 : ((List.range c).map fun k => (((List.range n).countP fun v => (gl r v).isEmpty && (Rot.cv og v == k) : Nat) : Int)).sum = (lone r : Int) := by
   have := sum_count c (fun v => Rot.cv og v) ((List.range n).filter fun v => (gl r v).isEmpty) (fun v hv => (h.cv (List.mem_range.1 (List.mem_filter.1 hv).1)).2)
   rw [← List.countP_eq_length_filter, ← lone_count hm] at this
   rw [← this]
   refine sum_congr fun k _ => ?_
   rw [List.countP_filter]
   congr 1
   refine List.countP_congr fun v _ => ?_
   rw [Bool.and_comm]
 have s5 : ((List.range c).map fun _ => (2 : Int)).sum = 2 * (c : Int) := by
   have : ∀ q : Nat, ((List.range q).map fun _ => (2 : Int)).sum = 2 * (q : Int) := fun q => by
     induction q with
     | zero => rfl
     | succ q ih => rw [List.range_succ, List.map_append, List.sum_append, ih]; simp; omega
   exact this c
 rw [List.length_range] at s1 s2
 rw [s1, s2, s3, s4, s5]
 omega
end
end Go.Proofs.Ytmikcfddipldnaa.Rot
namespace Go.Proofs.Ytmikcfddipldnaa.GAll
open Go.RowKit Go.Proofs.YtmikcfddipldnaaW.PrintWords Go.Proofs.YtmikcfddipldnaaW.PrintLast Go.Proofs.YtmikcfddipldnaaW.PrintMore
attribute [local go_sem] max2_int min2_int max_two min_two max_three min_three max_four min_four   -- for this text's walks alone
set_option linter.unusedVariables false
set_option linter.unusedSimpArgs false
def faces_Genus.told (l : List S56) (fs : List (List Int)) (o : List Int × Int × Int) : Option (Int × Int) :=
 if o.2.2 = 0 ∧ 0 ≤ o.2.1 ∧ Cnt.fitB o.1 (l.map fun x => (x.f0, x.f1)) fs o.2.1.toNat = true then some (Cnt.genusSum o.1 (l.map fun x => (x.f0, x.f1)) fs o.2.1.toNat, 0) else none
def faces_Genus.f (k : Nat) (a0_0 : Int) (l0_1 : List S56) (l1 : List (List Int)) : Option (Int × Int) := (faces_Of.f k a0_0 l0_1 l1).bind fun t => if t.2 = 0 then (comps_Of.f k a0_0 l0_1).bind fun o => faces_Genus.told l0_1 t.1 o else some (0, t.2)
theorem faces_Genus.mono : ∀ a0 a1 a2 k, LeO (faces_Genus.f k a0 a1 a2) (faces_Genus.f (k + 1) a0 a1 a2) := by
 intro a0 a1 a2 k
 unfold faces_Genus.f
 exact LeO.bind (faces_Of.mono _ _ _ _) (fun _ => LeO.ite (LeO.bind (comps_Of.mono _ _ _) (fun _ => LeO.refl _)) (LeO.refl _))
theorem faces_Genus.calls (k : Nat) (a0_0 : Int) (A0_1 : Option Addr) (c0_1 : Nat) (l0_1 : List (S56)) (A1 : Option Addr) (c1 : Nat) (l1 : List (List Int)) (r1 : Int) (r2 : Int) (w : World) (hr0_1 : Kd.C k56 w A0_1 l0_1.length l0_1) (hc0_1 : l0_1.length ≤ c0_1) (hr1 : Kd.C (Kd.slice 3 (Kd.int .i64)) w A1 l1.length l1) (hc1 : l1.length ≤ c1) (h : faces_Genus.f k a0_0 l0_1 l1 = some (r1, r2)) :
   Calls Try.prog 18 #[.agg #[.int .i64 a0_0, .slice A0_1 l0_1.length c0_1], .slice A1 l1.length c1] w fun e w' => e = .returned (.tuple #[.int .i64 r1, .int .i64 r2]) ∧ Below w.heap.size w w' := by
 obtain ⟨⟨fs, e0⟩, ht, h⟩ := Option.bind_eq_some_iff.mp h
 have hof : Cnt.OfSays fs e0 a0_0 A0_1 l0_1.length c0_1 A1 l1.length c1 w := fun W hW => (faces_Of.calls k a0_0 A0_1 c0_1 l0_1 A1 c1 l1 fs e0 W (Kd.C_below hr0_1 hW) hc0_1 (Kd.C_below hr1 hW) hc1 ht).mono fun e w' ⟨v, h1, h2, h3⟩ => ⟨v, h1, Kd.S_R h2, h3⟩
 by_cases he : e0 = 0
 · subst he
   rw [if_pos rfl] at h
   obtain ⟨⟨og, cn, e1⟩, hc, h⟩ := Option.bind_eq_some_iff.mp h
   unfold faces_Genus.told at h
   by_cases hf : (og, cn, e1).2.2 = 0 ∧ 0 ≤ (og, cn, e1).2.1 ∧ Cnt.fitB (og, cn, e1).1 (l0_1.map fun x => (x.f0, x.f1)) fs (og, cn, e1).2.1.toNat = true
   · rw [if_pos hf] at h
     obtain ⟨rfl, rfl⟩ : Cnt.genusSum og (l0_1.map fun x => (x.f0, x.f1)) fs cn.toNat = r1 ∧ 0 = r2 := by simpa using h
     obtain ⟨g1, g2, g3⟩ := hf
     simp only at g1 g2 g3
     subst g1
     obtain ⟨c, rfl⟩ := Int.eq_ofNat_of_zero_le g2
     have hco : Cnt.CompsSays og c a0_0 A0_1 l0_1.length c0_1 w := fun W hW => (comps_Of.calls k a0_0 A0_1 c0_1 l0_1 og _ 0 W (Kd.C_below hr0_1 hW) hc0_1 hc).mono fun e w' ⟨v, h1, h2, h3⟩ => ⟨v, h1, h2, h3⟩
     obtain ⟨es, hes⟩ : ∃ es : List (Int × Int), es = l0_1.map fun x => (x.f0, x.f1) := ⟨_, rfl⟩
     have hp : Sets.Pairs w A0_1 es := by rw [hes]; exact comps_Of.pairs hr0_1
     have hp2 : Mem.Pairs w A0_1 es := fun i hi => hp i hi
     have hl : l0_1.length = es.length := by rw [hes, List.length_map]
     rw [← hes] at g3 ⊢
     exact Cnt.genus_ok a0_0 A0_1 es l0_1.length c0_1 A1 l1.length c1 fs og c w hl hp2 (Cnt.fit_of.1 g3) hof hco
   · rw [if_neg hf] at h; cases h
 · rw [if_neg he] at h
   obtain ⟨rfl, rfl⟩ : (0 : Int) = r1 ∧ e0 = r2 := by simpa using h
   exact Cnt.genus_bad a0_0 A0_1 l0_1.length c0_1 A1 l1.length c1 e0 he fs w hof
end Go.Proofs.Ytmikcfddipldnaa.GAll
