/- DERIVED. Texts of this seat, one behind the other: lemmas and walks that the statement RotMemory needs. No condition. -/
import Derived.Test.YtkkhhbegeboonaaCRotMemoryc
import Derived.Test.YtkkhhbegeboonaaCRotMemoryd
import Derived.Deep.DeepCutAuto
import Derived.Deep.CutRange
namespace Go.Proofs.Ytkkhhbegeboonaa.GAll
open Go.RowKit Go.Proofs.YtkkhhbegeboonaaW.PrintWords Go.Proofs.YtkkhhbegeboonaaW.PrintLast Go.Proofs.YtkkhhbegeboonaaW.PrintMore
attribute [local go_sem] max2_int min2_int max_two min_two max_three min_three max_four min_four   -- for this text's walks alone
set_option linter.unusedVariables false
set_option linter.unusedSimpArgs false
def tangramref11_leaves.f (a0_0 : Int) (l0_1 : List (S59)) (a1 : Int) (a2 : Int) : Option (Bool) := if a1 ≥ 0 then (if a1 < (wrap64 (2 * (l0_1.length : Int))) then ((tangramref11_From.f a0_0 l0_1 a1).bind fun t137 => (some (t137 == a2))) else (some false)) else (some false)
set_option maxHeartbeats 8000000 in
set_option maxRecDepth 100000 in
theorem tangramref11_leaves.calls (a0_0 : Int) (A0_1 : Option Addr) (c0_1 : Nat) (l0_1 : List (S59)) (a1 : Int) (a2 : Int) (r : Bool) (w : World) (hr0_1 : Kd.C k59 w A0_1 l0_1.length l0_1) (hc0_1 : l0_1.length ≤ c0_1) (h : tangramref11_leaves.f a0_0 l0_1 a1 a2 = some r) :
  Calls Try.prog 37 #[.agg #[.int .i64 a0_0, .slice A0_1 l0_1.length c0_1], .int .i64 a1, .int .i64 a2] w fun e w' => e = .returned (.bool r) ∧ Below w.heap.size w w' := by
 have hu24 := Try.underlying24
 have HR0_1 := Aside0.mk hr0_1
 have HC0_1 := Aside0.mk hc0_1
 clear hr0_1 hc0_1
 have HB := Aside0.mk (Below.refl w.heap.size w)
 have H : (if a1 ≥ 0 then (if a1 < (wrap64 (2 * (l0_1.length : Int))) then ((tangramref11_From.f a0_0 l0_1 a1).bind fun t137 => (some (t137 == a2))) else (some false)) else (some false)) = some r := h
 clear h
 by_cases c4 : a1 ≥ 0
 ·rw [if_pos c4] at H
  have c4b0 : decide (0 ≤ a1) = true := decide_eq_true c4
  clear c4
  by_cases c5 : a1 < (wrap64 (2 * (l0_1.length : Int)))
  ·rw [if_pos c5] at H
   have c5b0 : decide (a1 < (wrap64 (2 * (l0_1.length : Int)))) = true := decide_eq_true c5
   clear c5
   replace H := Option.bind_eq_some_iff.mp H
   obtain ⟨t137, A60, H⟩ := H
   replace H : (some (t137 == a2)) = some r := H
   have A6 := Aside0.mk A60
   clear A60
   obtain rfl := Option.some.inj H
   go_enter Try.func37, Try.ntmps37
   go_wp2_with (first | ((with_reducible refine gate_dst (N := 3) rfl ?_); (try (refine gate_guard (by rfl) ?_; dsimp only)); refine box_event ?hg (N := 3) ?hd (cs := #[.int .i64 a0_0, .slice A0_1 l0_1.length c0_1]) (t := 24) ?hr ?_; (case hd => rfl); (case hg => rfl); (case hr => first | (go_simp; done) | (go_simp; rfl)); intro gb136 hg w7 hbox hb; have n0_ := Aside0.mk (below_step (by repeat (first | (with_reducible first | exact HB.out | apply below_alloc | apply pw_below_drewN | apply below_drew1) | exact HB.out)) hb); have n1_ := Aside0.mk (hbox); have n2_ := Aside0.mk ((by rw [hg]; exact (below_size (by repeat (first | (with_reducible first | exact HB.out | apply below_alloc | apply pw_below_drewN | apply below_drew1) | exact HB.out))) : w.heap.size ≤ gb136)); have n3_ := Aside0.mk ((by rw [hg]; exact (below_size (by repeat (first | (with_reducible first | exact HB.out | apply below_alloc | apply pw_below_drewN | apply below_drew1) | exact HB.out))) : w.heap.size ≤ gb136)); clear HB; have HB := n0_; have BK136 := n1_; have GW136 := n2_; have GE136 := n3_; clear n0_ n1_ n2_ n3_; clear hb hbox hg; have hcz8_0 : w7.cell? ⟨gb136, 0, none⟩ = some (.int .i64 a0_0) := (blk_cell BK136.out 0).trans rfl; have hcz8_1 : w7.cell? ⟨gb136, 1, none⟩ = some (.slice A0_1 l0_1.length c0_1) := (blk_cell BK136.out 1).trans rfl; have hfz8_0 := blk_frozen BK136.out 0; have hfz8_1 := blk_frozen BK136.out 1) | (go_at_call 14; (with_reducible refine (tangramref11_From.calls a0_0 _ _ l0_1 a1 t137 _ ?side1 ?side2 A6.out).mono ?_); (case side1 => repeat (first | exact (Kd.C_below HR0_1.out HB.out) | (with_reducible refine Kd.C_alloc ?_ _) | (with_reducible refine Kd.C_drewN ?_ _) | (with_reducible refine Kd.C_drew ?_))); (case side2 => exact HC0_1.out); rintro e w9 ⟨rfl, hb⟩; have n0_ := Aside0.mk (blk_below (g := gb136) (o := .cells #[.int .i64 a0_0, .slice A0_1 l0_1.length c0_1] 24 (0, 0)) (by (with_reducible repeat (first | refine blk_drewN ?_ _ | refine blk_drew ?_ | refine blk_alloc ?_ _)); exact BK136.out) hb); have n1_ := Aside0.mk (below_step (by repeat (first | (with_reducible first | exact HB.out | apply below_alloc | apply pw_below_drewN | apply below_drew1 | refine below_set ?_ GE136.out) | exact HB.out)) hb); clear BK136; clear HB; have BK136 := n0_; have HB := n1_; clear n0_ n1_; (try clear hb); (try clear hb2); (try clear hk); (try clear hi)))
   go_ret
   exact ⟨by first | rfl | (simp [errW_none, errW_some] <;> rfl) | (simp [*, errW_none, errW_some] <;> rfl), by repeat (first | (with_reducible first | exact HB.out | apply below_alloc | apply pw_below_drewN | apply below_drew1 | refine below_set ?_ GE136.out) | exact HB.out)⟩
  ·rw [if_neg c5] at H
   have c5b0 : decide (a1 < (wrap64 (2 * (l0_1.length : Int)))) = false := decide_eq_false c5
   clear c5
   obtain rfl := Option.some.inj H
   go_enter Try.func37, Try.ntmps37
   go_wp2_with (first | ((with_reducible refine gate_dst (N := 3) rfl ?_); (try (refine gate_guard (by rfl) ?_; dsimp only)); refine box_event ?hg (N := 3) ?hd (cs := #[.int .i64 a0_0, .slice A0_1 l0_1.length c0_1]) (t := 24) ?hr ?_; (case hd => rfl); (case hg => rfl); (case hr => first | (go_simp; done) | (go_simp; rfl)); intro gb136 hg w10 hbox hb; have n0_ := Aside0.mk (below_step (by repeat (first | (with_reducible first | exact HB.out | apply below_alloc | apply pw_below_drewN | apply below_drew1) | exact HB.out)) hb); have n1_ := Aside0.mk (hbox); have n2_ := Aside0.mk ((by rw [hg]; exact (below_size (by repeat (first | (with_reducible first | exact HB.out | apply below_alloc | apply pw_below_drewN | apply below_drew1) | exact HB.out))) : w.heap.size ≤ gb136)); have n3_ := Aside0.mk ((by rw [hg]; exact (below_size (by repeat (first | (with_reducible first | exact HB.out | apply below_alloc | apply pw_below_drewN | apply below_drew1) | exact HB.out))) : w.heap.size ≤ gb136)); clear HB; have HB := n0_; have BK136 := n1_; have GW136 := n2_; have GE136 := n3_; clear n0_ n1_ n2_ n3_; clear hb hbox hg; have hcz11_0 : w10.cell? ⟨gb136, 0, none⟩ = some (.int .i64 a0_0) := (blk_cell BK136.out 0).trans rfl; have hcz11_1 : w10.cell? ⟨gb136, 1, none⟩ = some (.slice A0_1 l0_1.length c0_1) := (blk_cell BK136.out 1).trans rfl; have hfz11_0 := blk_frozen BK136.out 0; have hfz11_1 := blk_frozen BK136.out 1))
   go_ret
   exact ⟨by first | rfl | (simp [errW_none, errW_some] <;> rfl) | (simp [*, errW_none, errW_some] <;> rfl), by repeat (first | (with_reducible first | exact HB.out | apply below_alloc | apply pw_below_drewN | apply below_drew1 | refine below_set ?_ GE136.out) | exact HB.out)⟩
 ·rw [if_neg c4] at H
  have c4b0 : decide (0 ≤ a1) = false := decide_eq_false c4
  clear c4
  obtain rfl := Option.some.inj H
  go_enter Try.func37, Try.ntmps37
  go_wp2_with (first | ((with_reducible refine gate_dst (N := 3) rfl ?_); (try (refine gate_guard (by rfl) ?_; dsimp only)); refine box_event ?hg (N := 3) ?hd (cs := #[.int .i64 a0_0, .slice A0_1 l0_1.length c0_1]) (t := 24) ?hr ?_; (case hd => rfl); (case hg => rfl); (case hr => first | (go_simp; done) | (go_simp; rfl)); intro gb136 hg w12 hbox hb; have n0_ := Aside0.mk (below_step (by repeat (first | (with_reducible first | exact HB.out | apply below_alloc | apply pw_below_drewN | apply below_drew1) | exact HB.out)) hb); have n1_ := Aside0.mk (hbox); have n2_ := Aside0.mk ((by rw [hg]; exact (below_size (by repeat (first | (with_reducible first | exact HB.out | apply below_alloc | apply pw_below_drewN | apply below_drew1) | exact HB.out))) : w.heap.size ≤ gb136)); have n3_ := Aside0.mk ((by rw [hg]; exact (below_size (by repeat (first | (with_reducible first | exact HB.out | apply below_alloc | apply pw_below_drewN | apply below_drew1) | exact HB.out))) : w.heap.size ≤ gb136)); clear HB; have HB := n0_; have BK136 := n1_; have GW136 := n2_; have GE136 := n3_; clear n0_ n1_ n2_ n3_; clear hb hbox hg))
  go_ret
  exact ⟨by first | rfl | (simp [errW_none, errW_some] <;> rfl) | (simp [*, errW_none, errW_some] <;> rfl), by repeat (first | (with_reducible first | exact HB.out | apply below_alloc | apply pw_below_drewN | apply below_drew1 | refine below_set ?_ GE136.out) | exact HB.out)⟩
end Go.Proofs.Ytkkhhbegeboonaa.GAll
namespace Go.Proofs.Ytkkhhbegeboonaa.GAll
open Go.RowKit Go.Proofs.YtkkhhbegeboonaaW.PrintWords Go.Proofs.YtkkhhbegeboonaaW.PrintLast Go.Proofs.YtkkhhbegeboonaaW.PrintMore
attribute [local go_sem] max2_int min2_int max_two min_two max_three min_three max_four min_four   -- for this text's walks alone
set_option linter.unusedVariables false
set_option linter.unusedSimpArgs false
def tangramref11_stands.l0 : Nat → List Int → Int → Int → Int → Option (Bool)
 | 0, _, _, _, _ => none
 | k + 1, x0, x1, x2, x7 => if x7 < x1 then (if 0 ≤ x7 then (if x7 < (x0.length : Int) then (if (rd x0 x7) = x2 then (some true) else (tangramref11_stands.l0 k x0 x1 x2 (wrap64 (x7 + 1)))) else (none)) else (none)) else (some false)
def tangramref11_stands.f (k : Nat) (l0 : List Int) (a1 : Int) (a2 : Int) : Option (Bool) := tangramref11_stands.l0 k l0 a1 a2 0
theorem tangramref11_stands.mono_l : ∀ k, (∀ y0 y1 y2 y3, LeO (tangramref11_stands.l0 k y0 y1 y2 y3) (tangramref11_stands.l0 (k + 1) y0 y1 y2 y3))
 | 0 => fun _ _ _ _ r h => by simp [tangramref11_stands.l0] at h
 | k + 1 => by
  have ih0 := tangramref11_stands.mono_l k
  ·intro y0 y1 y2 y3
   unfold tangramref11_stands.l0
   repeat' first
   | (with_reducible exact ih0 _ _ _ _)
   | (with_reducible exact LeO.refl _)
   | (with_reducible exact LeO.none _)
   | (with_reducible refine LeO.ite ?_ ?_)
   | (with_reducible refine LeO.bind ?_ (fun _ => ?_))
   | exact ih0 _ _ _ _
   | exact LeO.none _
   | refine LeO.ite ?_ ?_
   | refine LeO.bind ?_ (fun _ => ?_)
theorem tangramref11_stands.mono : ∀ a0 a1 a2 k, LeO (tangramref11_stands.f k a0 a1 a2) (tangramref11_stands.f (k + 1) a0 a1 a2) := by
 intro a0 a1 a2 k
 have ih0 := tangramref11_stands.mono_l k
 unfold tangramref11_stands.f
 repeat' first
   | (with_reducible exact ih0 _ _ _ _)
   | (with_reducible exact LeO.refl _)
   | (with_reducible exact LeO.none _)
   | (with_reducible refine LeO.ite ?_ ?_)
   | (with_reducible refine LeO.bind ?_ (fun _ => ?_))
   | exact ih0 _ _ _ _
   | exact LeO.none _
   | refine LeO.ite ?_ ?_
   | refine LeO.bind ?_ (fun _ => ?_)
set_option maxHeartbeats 8000000 in
set_option maxRecDepth 100000 in
theorem tangramref11_stands.calls (k : Nat) (A0 : Option Addr) (c0 : Nat) (l0 : List Int) (a1 : Int) (a2 : Int) (r : Bool) (w : World) (hr0 : Kd.C (Kd.int .i64) w A0 l0.length l0) (hc0 : l0.length ≤ c0) (h : tangramref11_stands.f k l0 a1 a2 = some r) :
  Calls Try.prog 38 #[.slice A0 l0.length c0, .int .i64 a1, .int .i64 a2] w fun e w' => e = .returned (.bool r) ∧ Drawn0 w w' := by
 have HR0 := Aside0.mk hr0
 have HC0 := Aside0.mk hc0
 clear hr0 hc0
 have H : (tangramref11_stands.l0 k l0 a1 a2 0) = some r := h
 clear h
 have H' := Aside0.mk H
 clear H
 go_enter Try.func38, Try.ntmps38
 go_wp2
 go_loopg [7] k (fun kq v7 w' => ∃ (x7_1 : Int), v7 = .int .i64 x7_1 ∧ Aside0 (tangramref11_stands.l0 kq l0 a1 a2 x7_1 = some r) ∧ Aside0 (kq ≤ k) ∧ Drawn0 w w')
 case atStart => exact ⟨(0), (by first | rfl | (simp; done) | (simp [*]; done)), H', ⟨Nat.le_refl _⟩, by repeat (first | exact Drawn0.refl _ | apply Drawn0.step)⟩
 case round =>
  clear H'
  try clear p2
  try clear c3
  obtain ⟨x7_1, rfl, HA, HK1, ⟨m1, rfl⟩⟩ := hrel
  cases gk with
  | zero => exact absurd HA.out (by simp [tangramref11_stands.l0])
  | succ k1 =>
   have H := HA.out
   clear HA
   simp only [tangramref11_stands.l0] at H
   by_cases c4 : x7_1 < a1
   ·rw [if_pos c4] at H
    have c4b0 : decide (x7_1 < a1) = true := decide_eq_true c4
    clear c4
    by_cases c5 : 0 ≤ x7_1
    ·rw [if_pos c5] at H
     have c5b0 : decide (0 ≤ x7_1) = true := decide_eq_true c5
     clear c5
     by_cases c6 : x7_1 < (l0.length : Int)
     ·rw [if_pos c6] at H
      have c6b0 : decide (x7_1 < (l0.length : Int)) = true := decide_eq_true c6
      clear c6
      by_cases c7 : (rd l0 x7_1) = a2
      ·rw [if_pos c7] at H
       have c7b0 : ((rd l0 x7_1) == a2) = true := beq_iff_eq.mpr c7
       have c7b1 : ((rd l0 x7_1) != a2) = false := bne_eq_false_iff_eq.mpr c7
       clear c7
       obtain rfl := Option.some.inj H
       have p138 : 0 ≤ (x7_1 : Int) := of_decide_eq_true (by first | (with_reducible assumption) | assumption)
       have q138 : x7_1 < (l0.length : Int) := of_decide_eq_true (by first | (with_reducible assumption) | assumption)
       obtain ⟨ad138, e138, hx138_0⟩ := Kd.at_int HR0.out x7_1 p138 q138
       cases e138
       replace p138 := eq_true p138
       replace q138 := eq_true q138
       go_wp2
       go_ret
       exact ⟨by first | rfl | (simp; done) | (simp [*]; done), by repeat (first | exact Drawn0.refl _ | apply Drawn0.step)⟩
      ·rw [if_neg c7] at H
       have c7b0 : ((rd l0 x7_1) == a2) = false := beq_eq_false_iff_ne.mpr c7
       have c7b1 : ((rd l0 x7_1) != a2) = true := bne_iff_ne.mpr c7
       have H' := Aside0.mk H
       clear H
       have p138 : 0 ≤ (x7_1 : Int) := of_decide_eq_true (by first | (with_reducible assumption) | assumption)
       have q138 : x7_1 < (l0.length : Int) := of_decide_eq_true (by first | (with_reducible assumption) | assumption)
       obtain ⟨ad138, e138, hx138_0⟩ := Kd.at_int HR0.out x7_1 p138 q138
       cases e138
       replace p138 := eq_true p138
       replace q138 := eq_true q138
       go_wp2
       go_roundg k1
       case measure => have := HK1.out; omega
       case rel => exact ⟨(wrap64 (x7_1 + 1)), (by first | rfl | (simp; done) | (simp [*]; done)), H', ⟨by have := HK1.out; omega⟩, by repeat (first | exact Drawn0.refl _ | apply Drawn0.step)⟩
     ·rw [if_neg c6] at H
      exact absurd H (by simp)
    ·rw [if_neg c5] at H
     exact absurd H (by simp)
   ·rw [if_neg c4] at H
    have c4b0 : decide (x7_1 < a1) = false := decide_eq_false c4
    clear c4
    obtain rfl := Option.some.inj H
    go_wp2
    go_ret
    exact ⟨by first | rfl | (simp; done) | (simp [*]; done), by repeat (first | exact Drawn0.refl _ | apply Drawn0.step)⟩
end Go.Proofs.Ytkkhhbegeboonaa.GAll
namespace Go.Proofs.Ytkkhhbegeboonaa.GAll
open Go.RowKit Go.Proofs.YtkkhhbegeboonaaW.PrintWords Go.Proofs.YtkkhhbegeboonaaW.PrintLast Go.Proofs.YtkkhhbegeboonaaW.PrintMore
attribute [local go_sem] max2_int min2_int max_two min_two max_three min_three max_four min_four   -- for this text's walks alone
set_option linter.unusedVariables false
set_option linter.unusedSimpArgs false
def tangramref11_degree.l0 : Nat → Int → Int → Int → Int → List (S59) → Option (Int)
 | 0, _, _, _, _, _ => none
 | k + 1, x1, x5, x6, x140000, x140001 => if x6 < (wrap64 (2 * (x140001.length : Int))) then ((tangramref11_From.f x140000 x140001 x6).bind fun t140 => (if t140 = x1 then (tangramref11_degree.l0 k x1 (wrap64 (x5 + 1)) (wrap64 (x6 + 1)) x140000 x140001) else (tangramref11_degree.l0 k x1 x5 (wrap64 (x6 + 1)) x140000 x140001))) else (some x5)
def tangramref11_degree.f (k : Nat) (a0_0 : Int) (l0_1 : List (S59)) (a1 : Int) : Option (Int) := tangramref11_degree.l0 k a1 0 0 a0_0 l0_1
theorem tangramref11_degree.mono_l : ∀ k, (∀ y0 y1 y2 y3 y4, LeO (tangramref11_degree.l0 k y0 y1 y2 y3 y4) (tangramref11_degree.l0 (k + 1) y0 y1 y2 y3 y4))
 | 0 => fun _ _ _ _ _ r h => by simp [tangramref11_degree.l0] at h
 | k + 1 => by
  have ih0 := tangramref11_degree.mono_l k
  ·intro y0 y1 y2 y3 y4
   unfold tangramref11_degree.l0
   repeat' first
   | (with_reducible exact ih0 _ _ _ _ _)
   | (with_reducible exact LeO.refl _)
   | (with_reducible exact LeO.none _)
   | (with_reducible refine LeO.ite ?_ ?_)
   | (with_reducible refine LeO.bind ?_ (fun _ => ?_))
   | exact ih0 _ _ _ _ _
   | exact LeO.none _
   | refine LeO.ite ?_ ?_
   | refine LeO.bind ?_ (fun _ => ?_)
theorem tangramref11_degree.mono : ∀ a0 a1 a2 k, LeO (tangramref11_degree.f k a0 a1 a2) (tangramref11_degree.f (k + 1) a0 a1 a2) := by
 intro a0 a1 a2 k
 have ih0 := tangramref11_degree.mono_l k
 unfold tangramref11_degree.f
 repeat' first
   | (with_reducible exact ih0 _ _ _ _ _)
   | (with_reducible exact LeO.refl _)
   | (with_reducible exact LeO.none _)
   | (with_reducible refine LeO.ite ?_ ?_)
   | (with_reducible refine LeO.bind ?_ (fun _ => ?_))
   | exact ih0 _ _ _ _ _
   | exact LeO.none _
   | refine LeO.ite ?_ ?_
   | refine LeO.bind ?_ (fun _ => ?_)
set_option maxHeartbeats 8000000 in
set_option maxRecDepth 100000 in
theorem tangramref11_degree.calls (k : Nat) (a0_0 : Int) (A0_1 : Option Addr) (c0_1 : Nat) (l0_1 : List (S59)) (a1 : Int) (r : Int) (w : World) (hr0_1 : Kd.C k59 w A0_1 l0_1.length l0_1) (hc0_1 : l0_1.length ≤ c0_1) (h : tangramref11_degree.f k a0_0 l0_1 a1 = some r) :
  Calls Try.prog 39 #[.agg #[.int .i64 a0_0, .slice A0_1 l0_1.length c0_1], .int .i64 a1] w fun e w' => e = .returned (.int .i64 r) ∧ Below w.heap.size w w' := by
 have hu24 := Try.underlying24
 have HR0_1 := Aside0.mk hr0_1
 have HC0_1 := Aside0.mk hc0_1
 clear hr0_1 hc0_1
 have HB := Aside0.mk (Below.refl w.heap.size w)
 have H : (tangramref11_degree.l0 k a1 0 0 a0_0 l0_1) = some r := h
 clear h
 have H' := Aside0.mk H
 clear H
 go_enter Try.func39, Try.ntmps39
 go_wp2_with (first | ((with_reducible refine gate_dst (N := 2) rfl ?_); refine box_event ?hg (N := 2) ?hd (cs := #[.int .i64 a0_0, .slice A0_1 l0_1.length c0_1]) (t := 24) ?hr ?_; (case hd => rfl); (case hg => rfl); (case hr => first | (go_simp; done) | (go_simp; rfl)); intro gb139 hg w3 hbox hb; have n0_ := Aside0.mk (below_step (by repeat (first | (with_reducible first | exact HB.out | apply below_alloc | apply pw_below_drewN | apply below_drew1) | exact HB.out)) hb); have n1_ := Aside0.mk (hbox); have n2_ := Aside0.mk ((by rw [hg]; exact (below_size (by repeat (first | (with_reducible first | exact HB.out | apply below_alloc | apply pw_below_drewN | apply below_drew1) | exact HB.out))) : w.heap.size ≤ gb139)); have n3_ := Aside0.mk ((by rw [hg]; exact (below_size (by repeat (first | (with_reducible first | exact HB.out | apply below_alloc | apply pw_below_drewN | apply below_drew1) | exact HB.out))) : w.heap.size ≤ gb139)); clear HB; have HB := n0_; have BK139 := n1_; have GW139 := n2_; have GE139 := n3_; clear n0_ n1_ n2_ n3_; clear hb hbox hg))
 go_loopg [5, 6] k (fun kq v5 v6 w' => ∃ (x5_1 : Int) (x6_1 : Int), v5 = .int .i64 x5_1 ∧ v6 = .int .i64 x6_1 ∧ Aside0 (tangramref11_degree.l0 kq a1 x5_1 x6_1 a0_0 l0_1 = some r) ∧ Aside0 (kq ≤ k) ∧ Aside0 (w'.heap[gb139]? = some (.cells #[.int .i64 a0_0, (.slice A0_1 l0_1.length c0_1)] 24 (0, 0))) ∧ Aside0 (Below w.heap.size w w'))
 case atStart => exact ⟨(0), (0), (by first | rfl | (simp; done) | (simp [*]; done)), (by first | rfl | (simp; done) | (simp [*]; done)), H', ⟨Nat.le_refl _⟩, ⟨by (with_reducible repeat (first | refine blk_drewN ?_ _ | refine blk_drew ?_ | refine blk_alloc ?_ _)); exact BK139.out⟩, ⟨by repeat (first | (with_reducible first | exact HB.out | apply below_alloc | apply pw_below_drewN | apply below_drew1 | refine below_set ?_ GE139.out) | exact HB.out)⟩⟩
 case round =>
  clear H'
  try clear p2
  try clear c3
  obtain ⟨x5_1, x6_1, rfl, rfl, HA, HK1, BK139, HB⟩ := hrel
  cases gk with
  | zero => exact absurd HA.out (by simp [tangramref11_degree.l0])
  | succ k1 =>
   have H := HA.out
   clear HA
   simp only [tangramref11_degree.l0] at H
   by_cases c4 : x6_1 < (wrap64 (2 * (l0_1.length : Int)))
   ·rw [if_pos c4] at H
    have c4b0 : decide (x6_1 < (wrap64 (2 * (l0_1.length : Int)))) = true := decide_eq_true c4
    clear c4
    replace H := Option.bind_eq_some_iff.mp H
    obtain ⟨t140, A50, H⟩ := H
    replace H : (if t140 = a1 then (tangramref11_degree.l0 k1 a1 (wrap64 (x5_1 + 1)) (wrap64 (x6_1 + 1)) a0_0 l0_1) else (tangramref11_degree.l0 k1 a1 x5_1 (wrap64 (x6_1 + 1)) a0_0 l0_1)) = some r := H
    have A5 := Aside0.mk A50
    clear A50
    by_cases c6 : t140 = a1
    ·rw [if_pos c6] at H
     have c6b0 : (t140 == a1) = true := beq_iff_eq.mpr c6
     have c6b1 : (t140 != a1) = false := bne_eq_false_iff_eq.mpr c6
     clear c6
     have H' := Aside0.mk H
     clear H
     have hcz7_0 : wr.cell? ⟨gb139, 0, none⟩ = some (.int .i64 a0_0) := (blk_cell BK139.out 0).trans rfl
     have hcz7_1 : wr.cell? ⟨gb139, 1, none⟩ = some (.slice A0_1 l0_1.length c0_1) := (blk_cell BK139.out 1).trans rfl
     have hfz7_0 := blk_frozen BK139.out 0
     have hfz7_1 := blk_frozen BK139.out 1
     go_wp2_with (first | ((with_reducible refine gate_callee (f := 14) rfl ?_); refine goesL_ (some 17) rfl rfl Try.func14 (by kernel_rfl) rfl #[.agg #[.int .i64 a0_0, .slice A0_1 l0_1.length c0_1], .int .i64 x6_1] rfl (by (try simp only [List.map_toArray, List.map_cons, List.map_nil]); first | done | rfl | (simp only [List.length_drop, List.length_take]; rfl)) ?_; (with_reducible refine (tangramref11_From.calls a0_0 _ _ l0_1 x6_1 t140 _ ?side1 ?side2 A5.out).mono ?_); (case side1 => repeat (first | exact (Kd.C_below HR0_1.out HB.out) | (with_reducible refine Kd.C_alloc ?_ _) | (with_reducible refine Kd.C_drewN ?_ _) | (with_reducible refine Kd.C_drew ?_))); (case side2 => exact HC0_1.out); rintro e w8 ⟨rfl, hb⟩; refine ⟨_, rfl, ?_⟩; have n0_ := Aside0.mk (blk_below (g := gb139) (o := .cells #[.int .i64 a0_0, .slice A0_1 l0_1.length c0_1] 24 (0, 0)) (by (with_reducible repeat (first | refine blk_drewN ?_ _ | refine blk_drew ?_ | refine blk_alloc ?_ _)); exact BK139.out) hb); have n1_ := Aside0.mk (below_step (by repeat (first | (with_reducible first | exact HB.out | apply below_alloc | apply pw_below_drewN | apply below_drew1 | refine below_set ?_ GE139.out) | exact HB.out)) hb); clear BK139; clear HB; have BK139 := n0_; have HB := n1_; clear n0_ n1_; (try clear hb); (try clear hb2); (try clear hk); (try clear hi)))
     go_roundg k1
     case measure => have := HK1.out; omega
     case rel => exact ⟨(wrap64 (x5_1 + 1)), (wrap64 (x6_1 + 1)), (by first | rfl | (simp; done) | (simp [*]; done)), (by first | rfl | (simp; done) | (simp [*]; done)), H', ⟨by have := HK1.out; omega⟩, ⟨by (with_reducible repeat (first | refine blk_drewN ?_ _ | refine blk_drew ?_ | refine blk_alloc ?_ _)); exact BK139.out⟩, ⟨by repeat (first | (with_reducible first | exact HB.out | apply below_alloc | apply pw_below_drewN | apply below_drew1 | refine below_set ?_ GE139.out) | exact HB.out)⟩⟩
    ·rw [if_neg c6] at H
     have c6b0 : (t140 == a1) = false := beq_eq_false_iff_ne.mpr c6
     have c6b1 : (t140 != a1) = true := bne_iff_ne.mpr c6
     have H' := Aside0.mk H
     clear H
     have hcz9_0 : wr.cell? ⟨gb139, 0, none⟩ = some (.int .i64 a0_0) := (blk_cell BK139.out 0).trans rfl
     have hcz9_1 : wr.cell? ⟨gb139, 1, none⟩ = some (.slice A0_1 l0_1.length c0_1) := (blk_cell BK139.out 1).trans rfl
     have hfz9_0 := blk_frozen BK139.out 0
     have hfz9_1 := blk_frozen BK139.out 1
     go_wp2_with (first | ((with_reducible refine gate_callee (f := 14) rfl ?_); refine goesL_ (some 17) rfl rfl Try.func14 (by kernel_rfl) rfl #[.agg #[.int .i64 a0_0, .slice A0_1 l0_1.length c0_1], .int .i64 x6_1] rfl (by (try simp only [List.map_toArray, List.map_cons, List.map_nil]); first | done | rfl | (simp only [List.length_drop, List.length_take]; rfl)) ?_; (with_reducible refine (tangramref11_From.calls a0_0 _ _ l0_1 x6_1 t140 _ ?side1 ?side2 A5.out).mono ?_); (case side1 => repeat (first | exact (Kd.C_below HR0_1.out HB.out) | (with_reducible refine Kd.C_alloc ?_ _) | (with_reducible refine Kd.C_drewN ?_ _) | (with_reducible refine Kd.C_drew ?_))); (case side2 => exact HC0_1.out); rintro e w10 ⟨rfl, hb⟩; refine ⟨_, rfl, ?_⟩; have n0_ := Aside0.mk (blk_below (g := gb139) (o := .cells #[.int .i64 a0_0, .slice A0_1 l0_1.length c0_1] 24 (0, 0)) (by (with_reducible repeat (first | refine blk_drewN ?_ _ | refine blk_drew ?_ | refine blk_alloc ?_ _)); exact BK139.out) hb); have n1_ := Aside0.mk (below_step (by repeat (first | (with_reducible first | exact HB.out | apply below_alloc | apply pw_below_drewN | apply below_drew1 | refine below_set ?_ GE139.out) | exact HB.out)) hb); clear BK139; clear HB; have BK139 := n0_; have HB := n1_; clear n0_ n1_; (try clear hb); (try clear hb2); (try clear hk); (try clear hi)))
     go_roundg k1
     case measure => have := HK1.out; omega
     case rel => exact ⟨(x5_1), (wrap64 (x6_1 + 1)), (by first | rfl | (simp; done) | (simp [*]; done)), (by first | rfl | (simp; done) | (simp [*]; done)), H', ⟨by have := HK1.out; omega⟩, ⟨by (with_reducible repeat (first | refine blk_drewN ?_ _ | refine blk_drew ?_ | refine blk_alloc ?_ _)); exact BK139.out⟩, ⟨by repeat (first | (with_reducible first | exact HB.out | apply below_alloc | apply pw_below_drewN | apply below_drew1 | refine below_set ?_ GE139.out) | exact HB.out)⟩⟩
   ·rw [if_neg c4] at H
    have c4b0 : decide (x6_1 < (wrap64 (2 * (l0_1.length : Int)))) = false := decide_eq_false c4
    clear c4
    obtain rfl := Option.some.inj H
    have hcz11_0 : wr.cell? ⟨gb139, 0, none⟩ = some (.int .i64 a0_0) := (blk_cell BK139.out 0).trans rfl
    have hcz11_1 : wr.cell? ⟨gb139, 1, none⟩ = some (.slice A0_1 l0_1.length c0_1) := (blk_cell BK139.out 1).trans rfl
    have hfz11_0 := blk_frozen BK139.out 0
    have hfz11_1 := blk_frozen BK139.out 1
    go_wp2
    go_ret
    exact ⟨by first | rfl | (simp [errW_none, errW_some] <;> rfl) | (simp [*, errW_none, errW_some] <;> rfl), by repeat (first | (with_reducible first | exact HB.out | apply below_alloc | apply pw_below_drewN | apply below_drew1 | refine below_set ?_ GE139.out) | exact HB.out)⟩
end Go.Proofs.Ytkkhhbegeboonaa.GAll
namespace Go.Proofs.Ytkkhhbegeboonaa.GAll
open Go.RowKit Go.Proofs.YtkkhhbegeboonaaW.PrintWords Go.Proofs.YtkkhhbegeboonaaW.PrintLast Go.Proofs.YtkkhhbegeboonaaW.PrintMore
attribute [local go_sem] max2_int min2_int max_two min_two max_three min_three max_four min_four   -- for this text's walks alone
set_option linter.unusedVariables false
set_option linter.unusedSimpArgs false
mutual
def tangramref11_Check.l0 : Nat → List (List Int) → Int → Int → List (S59) → Option (Int × Int)
 | 0, _, _, _, _ => none
 | k + 1, x1, x6, x142000, x142001 => if x6 < x142000 then (tangramref11_Check.l1 k x1 x6 0 x142000 x142001) else (some (0, 0))
def tangramref11_Check.l1 : Nat → List (List Int) → Int → Int → Int → List (S59) → Option (Int × Int)
 | 0, _, _, _, _, _ => none
 | k + 1, x1, x6, x7, x142000, x142001 => if 0 ≤ x6 then (if x6 < (x1.length : Int) then (if x7 < ((rd_L5 x1 x6).length : Int) then (if 0 ≤ x7 then ((tangramref11_leaves.f x142000 x142001 (rd (rd_L5 x1 x6) x7) x6).bind fun t148 => (if t148 = true then ((tangramref11_stands.f k (rd_L5 x1 x6) x7 (rd (rd_L5 x1 x6) x7)).bind fun t152 => (if t152 = true then (some (x6, 112)) else (tangramref11_Check.l1 k x1 x6 (wrap64 (x7 + 1)) x142000 x142001))) else (some (x6, 111)))) else (none)) else ((tangramref11_degree.f k x142000 x142001 x6).bind fun t145 => (if ((rd_L5 x1 x6).length : Int) < t145 then (some (x6, 113)) else (tangramref11_Check.l0 k x1 (wrap64 (x6 + 1)) x142000 x142001)))) else (none)) else (none)
end
def tangramref11_Check.f (k : Nat) (a0_0 : Int) (l0_1 : List (S59)) (l1 : List (List Int)) : Option (Int × Int) := (tangramref03_Valid.f k a0_0 l0_1).bind fun t142 => (if t142 = true then (if (l1.length : Int) = a0_0 then (tangramref11_Check.l0 k l1 0 a0_0 l0_1) else (some (0, 110))) else (some (0, 1)))
theorem tangramref11_Check.mono_l : ∀ k, (∀ y0 y1 y2 y3, LeO (tangramref11_Check.l0 k y0 y1 y2 y3) (tangramref11_Check.l0 (k + 1) y0 y1 y2 y3)) ∧ (∀ y0 y1 y2 y3 y4, LeO (tangramref11_Check.l1 k y0 y1 y2 y3 y4) (tangramref11_Check.l1 (k + 1) y0 y1 y2 y3 y4))
 | 0 => ⟨fun _ _ _ _ r h => by simp [tangramref11_Check.l0] at h, fun _ _ _ _ _ r h => by simp [tangramref11_Check.l1] at h⟩
 | k + 1 => by
  obtain ⟨ih0, ih1⟩ := tangramref11_Check.mono_l k
  refine ⟨?_, ?_⟩
  ·intro y0 y1 y2 y3
   unfold tangramref11_Check.l0
   repeat' first
   | (with_reducible exact ih0 _ _ _ _)
   | (with_reducible exact ih1 _ _ _ _ _)
   | (with_reducible exact tangramref03_Valid.mono _ _ _)
   | (with_reducible exact tangramref11_degree.mono _ _ _ _)
   | (with_reducible exact tangramref11_stands.mono _ _ _ _)
   | (with_reducible exact LeO.refl _)
   | (with_reducible exact LeO.none _)
   | (with_reducible refine LeO.ite ?_ ?_)
   | (with_reducible refine LeO.bind ?_ (fun _ => ?_))
   | exact ih0 _ _ _ _
   | exact ih1 _ _ _ _ _
   | exact tangramref03_Valid.mono _ _ _
   | exact tangramref11_degree.mono _ _ _ _
   | exact tangramref11_stands.mono _ _ _ _
   | exact LeO.none _
   | refine LeO.ite ?_ ?_
   | refine LeO.bind ?_ (fun _ => ?_)
  ·intro y0 y1 y2 y3 y4
   unfold tangramref11_Check.l1
   repeat' first
   | (with_reducible exact ih0 _ _ _ _)
   | (with_reducible exact ih1 _ _ _ _ _)
   | (with_reducible exact tangramref03_Valid.mono _ _ _)
   | (with_reducible exact tangramref11_degree.mono _ _ _ _)
   | (with_reducible exact tangramref11_stands.mono _ _ _ _)
   | (with_reducible exact LeO.refl _)
   | (with_reducible exact LeO.none _)
   | (with_reducible refine LeO.ite ?_ ?_)
   | (with_reducible refine LeO.bind ?_ (fun _ => ?_))
   | exact ih0 _ _ _ _
   | exact ih1 _ _ _ _ _
   | exact tangramref03_Valid.mono _ _ _
   | exact tangramref11_degree.mono _ _ _ _
   | exact tangramref11_stands.mono _ _ _ _
   | exact LeO.none _
   | refine LeO.ite ?_ ?_
   | refine LeO.bind ?_ (fun _ => ?_)
theorem tangramref11_Check.mono : ∀ a0 a1 a2 k, LeO (tangramref11_Check.f k a0 a1 a2) (tangramref11_Check.f (k + 1) a0 a1 a2) := by
 intro a0 a1 a2 k
 obtain ⟨ih0, ih1⟩ := tangramref11_Check.mono_l k
 unfold tangramref11_Check.f
 repeat' first
   | (with_reducible exact ih0 _ _ _ _)
   | (with_reducible exact ih1 _ _ _ _ _)
   | (with_reducible exact tangramref03_Valid.mono _ _ _)
   | (with_reducible exact tangramref11_degree.mono _ _ _ _)
   | (with_reducible exact tangramref11_stands.mono _ _ _ _)
   | (with_reducible exact LeO.refl _)
   | (with_reducible exact LeO.none _)
   | (with_reducible refine LeO.ite ?_ ?_)
   | (with_reducible refine LeO.bind ?_ (fun _ => ?_))
   | exact ih0 _ _ _ _
   | exact ih1 _ _ _ _ _
   | exact tangramref03_Valid.mono _ _ _
   | exact tangramref11_degree.mono _ _ _ _
   | exact tangramref11_stands.mono _ _ _ _
   | exact LeO.none _
   | refine LeO.ite ?_ ?_
   | refine LeO.bind ?_ (fun _ => ?_)
def tangramref11_Check.T11 : Bool × List (List Nat × List Nat) := (true, [([], []), ([], []), ([], []), ([1, 2], [1, 2]), ([3], [3]), ([], []), ([4, 5], [4, 5]), ([6], [6]), ([], []), ([0, 7, 8], [0, 7, 8]), ([9], [9])])
def tangramref11_Check.B11 : List Nat := [0, 0, 0, 6, 14, 0, 62, 126, 0, 511, 1023]
theorem tangramref11_Check.tab11 : rtab .any (opsOf Try.f16 11) = tangramref11_Check.T11 := by kernel_rfl
theorem tangramref11_Check.bits11 : waitsOk tangramref11_Check.T11.2 tangramref11_Check.B11 = true := by kernel_rfl
def tangramref11_Check.T13 : Bool × List (List Nat × List Nat) := (true, [([], []), ([], []), ([0, 1], [0, 1]), ([2], [2]), ([], []), ([], []), ([], []), ([5, 6], [5, 6]), ([7], [7]), ([], []), ([8, 9], [8, 9]), ([10], [10]), ([3, 4, 11], [3, 4, 11])])
def tangramref11_Check.B13 : List Nat := [0, 0, 3, 7, 0, 0, 0, 96, 224, 0, 992, 2016, 4095]
theorem tangramref11_Check.tab13 : rtab .any (opsOf Try.f16 13) = tangramref11_Check.T13 := by kernel_rfl
theorem tangramref11_Check.bits13 : waitsOk tangramref11_Check.T13.2 tangramref11_Check.B13 = true := by kernel_rfl
def tangramref11_Check.T15 : Bool × List (List Nat × List Nat) := (true, [([], []), ([], []), ([0, 1], [0, 1]), ([2], [2]), ([3], [3]), ([], []), ([], []), ([5, 6], [5, 6]), ([4, 7], [4, 7])])
def tangramref11_Check.B15 : List Nat := [0, 0, 3, 7, 15, 0, 0, 96, 255]
theorem tangramref11_Check.tab15 : rtab .any (opsOf Try.f16 15) = tangramref11_Check.T15 := by kernel_rfl
theorem tangramref11_Check.bits15 : waitsOk tangramref11_Check.T15.2 tangramref11_Check.B15 = true := by kernel_rfl
set_option maxHeartbeats 8000000 in
set_option maxRecDepth 100000 in
theorem tangramref11_Check.calls (k : Nat) (a0_0 : Int) (A0_1 : Option Addr) (c0_1 : Nat) (l0_1 : List (S59)) (A1 : Option Addr) (c1 : Nat) (l1 : List (List Int)) (r1 : Int) (r2 : Int) (w : World) (hr0_1 : Kd.C k59 w A0_1 l0_1.length l0_1) (hc0_1 : l0_1.length ≤ c0_1) (hr1 : Kd.C (Kd.slice 3 (Kd.int .i64)) w A1 l1.length l1) (hc1 : l1.length ≤ c1) (h : tangramref11_Check.f k a0_0 l0_1 l1 = some (r1, r2)) :
  Calls Try.prog 16 #[.agg #[.int .i64 a0_0, .slice A0_1 l0_1.length c0_1], .slice A1 l1.length c1] w fun e w' => e = .returned (.tuple #[.int .i64 r1, .int .i64 r2]) ∧ Below w.heap.size w w' := by
 have hu24 := Try.underlying24
 have HR0_1 := Aside0.mk hr0_1
 have HC0_1 := Aside0.mk hc0_1
 clear hr0_1 hc0_1
 have HR1 := Aside0.mk hr1
 have HC1 := Aside0.mk hc1
 clear hr1 hc1
 have HB := Aside0.mk (Below.refl w.heap.size w)
 have H : ((tangramref03_Valid.f k a0_0 l0_1).bind fun t142 => (if t142 = true then (if (l1.length : Int) = a0_0 then (tangramref11_Check.l0 k l1 0 a0_0 l0_1) else (some (0, 110))) else (some (0, 1)))) = some (r1, r2) := h
 clear h
 replace H := Option.bind_eq_some_iff.mp H
 obtain ⟨t142, A30, H⟩ := H
 replace H : (if t142 = true then (if (l1.length : Int) = a0_0 then (tangramref11_Check.l0 k l1 0 a0_0 l0_1) else (some (0, 110))) else (some (0, 1))) = some (r1, r2) := H
 have A3 := Aside0.mk A30
 clear A30
 by_cases c4 : t142 = true
 ·subst c4
  have H1 : (if (l1.length : Int) = a0_0 then (tangramref11_Check.l0 k l1 0 a0_0 l0_1) else (some (0, 110))) = some (r1, r2) := by rw [if_pos rfl] at H; exact H
  clear H
  have H := H1
  clear H1
  by_cases c5 : (l1.length : Int) = a0_0
  ·rw [if_pos c5] at H
   have c5b0 : ((l1.length : Int) == a0_0) = true := beq_iff_eq.mpr c5
   have c5b1 : ((l1.length : Int) != a0_0) = false := bne_eq_false_iff_eq.mpr c5
   clear c5
   have H' := Aside0.mk H
   clear H
   go_enter Try.func16, Try.ntmps16
   go_wp2_with (first | ((with_reducible refine gate_dst (N := 2) rfl ?_); refine box_event ?hg (N := 2) ?hd (cs := #[.int .i64 a0_0, .slice A0_1 l0_1.length c0_1]) (t := 24) ?hr ?_; (case hd => rfl); (case hg => rfl); (case hr => first | (go_simp; done) | (go_simp; rfl)); intro gb141 hg w6 hbox hb; have n0_ := Aside0.mk (below_step (by repeat (first | (with_reducible first | exact HB.out | apply below_alloc | apply pw_below_drewN | apply below_drew1) | exact HB.out)) hb); have n1_ := Aside0.mk (hbox); have n2_ := Aside0.mk ((by rw [hg]; exact (below_size (by repeat (first | (with_reducible first | exact HB.out | apply below_alloc | apply pw_below_drewN | apply below_drew1) | exact HB.out))) : w.heap.size ≤ gb141)); have n3_ := Aside0.mk ((by rw [hg]; exact (below_size (by repeat (first | (with_reducible first | exact HB.out | apply below_alloc | apply pw_below_drewN | apply below_drew1) | exact HB.out))) : w.heap.size ≤ gb141)); clear HB; have HB := n0_; have BK141 := n1_; have GW141 := n2_; have GE141 := n3_; clear n0_ n1_ n2_ n3_; clear hb hbox hg; have hcz7_0 : w6.cell? ⟨gb141, 0, none⟩ = some (.int .i64 a0_0) := (blk_cell BK141.out 0).trans rfl; have hcz7_1 : w6.cell? ⟨gb141, 1, none⟩ = some (.slice A0_1 l0_1.length c0_1) := (blk_cell BK141.out 1).trans rfl; have hfz7_0 := blk_frozen BK141.out 0; have hfz7_1 := blk_frozen BK141.out 1) | ((with_reducible refine gate_callee (f := 13) rfl ?_); refine goesL_ (some 9) rfl rfl Try.func13 (by kernel_rfl) rfl #[.agg #[.int .i64 a0_0, .slice A0_1 l0_1.length c0_1]] rfl (by (try simp only [List.map_toArray, List.map_cons, List.map_nil]); first | done | rfl | (simp only [List.length_drop, List.length_take]; rfl)) ?_; (with_reducible refine (tangramref03_Valid.calls k a0_0 _ _ l0_1 true _ ?side1 ?side2 A3.out).mono ?_); (case side1 => repeat (first | exact (Kd.C_below HR0_1.out HB.out) | (with_reducible refine Kd.C_alloc ?_ _) | (with_reducible refine Kd.C_drewN ?_ _) | (with_reducible refine Kd.C_drew ?_))); (case side2 => exact HC0_1.out); rintro e w8 ⟨rfl, hb⟩; refine ⟨_, rfl, ?_⟩; have n0_ := Aside0.mk (blk_below (g := gb141) (o := .cells #[.int .i64 a0_0, .slice A0_1 l0_1.length c0_1] 24 (0, 0)) (by (with_reducible repeat (first | refine blk_drewN ?_ _ | refine blk_drew ?_ | refine blk_alloc ?_ _)); exact BK141.out) hb); have n1_ := Aside0.mk (below_step (by repeat (first | (with_reducible first | exact HB.out | apply below_alloc | apply pw_below_drewN | apply below_drew1 | refine below_set ?_ GE141.out) | exact HB.out)) hb); clear BK141; clear HB; have BK141 := n0_; have HB := n1_; clear n0_ n1_; (try clear hb); (try clear hb2); (try clear hk); (try clear hi); have hcz9_0 : w8.cell? ⟨gb141, 0, none⟩ = some (.int .i64 a0_0) := (blk_cell BK141.out 0).trans rfl; have hcz9_1 : w8.cell? ⟨gb141, 1, none⟩ = some (.slice A0_1 l0_1.length c0_1) := (blk_cell BK141.out 1).trans rfl; have hfz9_0 := blk_frozen BK141.out 0; have hfz9_1 := blk_frozen BK141.out 1))
   go_loopg [6] k (fun kq v6 w' => ∃ (x6_1 : Int), v6 = .int .i64 x6_1 ∧ Aside0 (tangramref11_Check.l0 kq l1 x6_1 a0_0 l0_1 = some (r1, r2)) ∧ Aside0 (kq ≤ k) ∧ Aside0 (w'.heap[gb141]? = some (.cells #[.int .i64 a0_0, (.slice A0_1 l0_1.length c0_1)] 24 (0, 0))) ∧ Aside0 (Below w.heap.size w w'))
   case atStart => exact ⟨(0), (by first | rfl | (simp; done) | (simp [*]; done)), H', ⟨Nat.le_refl _⟩, ⟨by (with_reducible repeat (first | refine blk_drewN ?_ _ | refine blk_drew ?_ | refine blk_alloc ?_ _)); exact BK141.out⟩, ⟨by repeat (first | (with_reducible first | exact HB.out | apply below_alloc | apply pw_below_drewN | apply below_drew1 | refine below_set ?_ GE141.out) | exact HB.out)⟩⟩
   case round =>
    clear H'
    try clear c1
    try clear p2
    try clear c4
    try clear c5
    try clear c5b0
    try clear c5b1
    try clear hcz7_0
    try clear hcz7_1
    try clear hcz9_0
    try clear hcz9_1
    try clear hfz7_0
    try clear hfz7_1
    try clear hfz9_0
    try clear hfz9_1
    obtain ⟨x6_1, rfl, HA, HK1, BK141, HB⟩ := hrel
    cases gk with
    | zero => exact absurd HA.out (by simp [tangramref11_Check.l0])
    | succ k1 =>
     have H := HA.out
     clear HA
     simp only [tangramref11_Check.l0] at H
     by_cases c10 : x6_1 < a0_0
     ·rw [if_pos c10] at H
      have c10b0 : decide (x6_1 < a0_0) = true := decide_eq_true c10
      clear c10
      have H' := Aside0.mk H
      clear H
      have hcz11_0 : wr.cell? ⟨gb141, 0, none⟩ = some (.int .i64 a0_0) := (blk_cell BK141.out 0).trans rfl
      have hcz11_1 : wr.cell? ⟨gb141, 1, none⟩ = some (.slice A0_1 l0_1.length c0_1) := (blk_cell BK141.out 1).trans rfl
      have hfz11_0 := blk_frozen BK141.out 0
      have hfz11_1 := blk_frozen BK141.out 1
      go_wp2
      go_loopg [7] k1 (fun kq v7 w' => ∃ (x7_2 : Int), v7 = .int .i64 x7_2 ∧ Aside0 (tangramref11_Check.l1 kq l1 x6_1 x7_2 a0_0 l0_1 = some (r1, r2)) ∧ Aside0 (kq ≤ k1) ∧ Aside0 (w'.heap[gb141]? = some (.cells #[.int .i64 a0_0, (.slice A0_1 l0_1.length c0_1)] 24 (0, 0))) ∧ Aside0 (Below w.heap.size w w'))
      case atStart => exact ⟨(0), (by first | rfl | (simp; done) | (simp [*]; done)), H', ⟨Nat.le_refl _⟩, ⟨by (with_reducible repeat (first | refine blk_drewN ?_ _ | refine blk_drew ?_ | refine blk_alloc ?_ _)); exact BK141.out⟩, ⟨by repeat (first | (with_reducible first | exact HB.out | apply below_alloc | apply pw_below_drewN | apply below_drew1 | refine below_set ?_ GE141.out) | exact HB.out)⟩⟩
      case round =>
       clear H'
       try clear c1
       try clear p2
       try clear c4
       try clear c5
       try clear c5b0
       try clear c5b1
       try clear c10
       try clear c10b0
       try clear hcz11_0
       try clear hcz11_1
       try clear hcz7_0
       try clear hcz7_1
       try clear hcz9_0
       try clear hcz9_1
       try clear hfz11_0
       try clear hfz11_1
       try clear hfz7_0
       try clear hfz7_1
       try clear hfz9_0
       try clear hfz9_1
       try clear p2
       obtain ⟨x7_2, rfl, HA, HK2, BK141, HB⟩ := hrel
       cases gk with
       | zero => exact absurd HA.out (by simp [tangramref11_Check.l1])
       | succ k2 =>
        have H := HA.out
        clear HA
        simp only [tangramref11_Check.l1] at H
        by_cases c12 : 0 ≤ x6_1
        ·rw [if_pos c12] at H
         have c12b0 : decide (0 ≤ x6_1) = true := decide_eq_true c12
         clear c12
         by_cases c13 : x6_1 < (l1.length : Int)
         ·rw [if_pos c13] at H
          have c13b0 : decide (x6_1 < (l1.length : Int)) = true := decide_eq_true c13
          clear c13
          by_cases c14 : x7_2 < ((rd_L5 l1 x6_1).length : Int)
          ·rw [if_pos c14] at H
           have c14b0 : decide (x7_2 < ((rd_L5 l1 x6_1).length : Int)) = true := decide_eq_true c14
           clear c14
           by_cases c15 : 0 ≤ x7_2
           ·rw [if_pos c15] at H
            have c15b0 : decide (0 ≤ x7_2) = true := decide_eq_true c15
            clear c15
            replace H := Option.bind_eq_some_iff.mp H
            obtain ⟨t148, A160, H⟩ := H
            replace H : (if t148 = true then ((tangramref11_stands.f k2 (rd_L5 l1 x6_1) x7_2 (rd (rd_L5 l1 x6_1) x7_2)).bind fun t152 => (if t152 = true then (some (x6_1, 112)) else (tangramref11_Check.l1 k2 l1 x6_1 (wrap64 (x7_2 + 1)) a0_0 l0_1))) else (some (x6_1, 111))) = some (r1, r2) := H
            have A16 := Aside0.mk A160
            clear A160
            by_cases c17 : t148 = true
            ·subst c17
             have H1 : ((tangramref11_stands.f k2 (rd_L5 l1 x6_1) x7_2 (rd (rd_L5 l1 x6_1) x7_2)).bind fun t152 => (if t152 = true then (some (x6_1, 112)) else (tangramref11_Check.l1 k2 l1 x6_1 (wrap64 (x7_2 + 1)) a0_0 l0_1))) = some (r1, r2) := by rw [if_pos rfl] at H; exact H
             clear H
             have H := H1
             clear H1
             replace H := Option.bind_eq_some_iff.mp H
             obtain ⟨t152, A180, H⟩ := H
             replace H : (if t152 = true then (some (x6_1, 112)) else (tangramref11_Check.l1 k2 l1 x6_1 (wrap64 (x7_2 + 1)) a0_0 l0_1)) = some (r1, r2) := H
             have A18 := Aside0.mk A180
             clear A180
             by_cases c19 : t152 = true
             ·subst c19
              have H1 : (some (x6_1, 112)) = some (r1, r2) := by rw [if_pos rfl] at H; exact H
              clear H
              have H := H1
              clear H1
              simp only [Option.some.injEq, Prod.mk.injEq] at H
              obtain ⟨rfl, rfl⟩ := H
              have p143 : 0 ≤ (x6_1 : Int) := of_decide_eq_true (by first | (with_reducible assumption) | assumption)
              have q143 : x6_1 < (l1.length : Int) := of_decide_eq_true (by first | (with_reducible assumption) | assumption)
              obtain ⟨ad143, A143_0, c143_0, e143, hx143_0, hl143_0, hi143_0⟩ := at_L5 HR1.out x6_1 p143 q143
              cases e143
              replace hx143_0 := (HB.out.cell (World.block_lt_of_cell? w _ hx143_0)).trans hx143_0
              have HR143_0 := Aside0.mk hi143_0
              have HC143_0 := Aside0.mk hl143_0
              clear hi143_0 hl143_0
              replace p143 := eq_true p143
              replace q143 := eq_true q143
              try go_wp2
              have n0_ := Aside0.mk (blk_drew BK141.out)
              have n1_ := Aside0.mk (below_drew1 HB.out)
              clear BK141
              clear HB
              have BK141 := n0_
              have HB := n1_
              clear n0_ n1_
              have p146 : 0 ≤ (x6_1 : Int) := of_decide_eq_true (by first | (with_reducible assumption) | assumption)
              have q146 : x6_1 < (l1.length : Int) := of_decide_eq_true (by first | (with_reducible assumption) | assumption)
              obtain ⟨ad146, A146_0, c146_0, e146, hx146_0, hl146_0, hi146_0⟩ := at_L5 HR1.out x6_1 p146 q146
              have hw146_0 := hx146_0
              obtain rfl : ad143 = ad146 := (by injection e146)
              replace hx146_0 := (HB.out.cell (World.block_lt_of_cell? w _ hx146_0)).trans hx146_0
              have HR146_0 := Aside0.mk hi146_0
              have HC146_0 := Aside0.mk hl146_0
              clear hi146_0 hl146_0
              replace p146 := eq_true p146
              replace q146 := eq_true q146
              have p147 : 0 ≤ (x7_2 : Int) := of_decide_eq_true (by first | (with_reducible assumption) | assumption)
              have q147 : x7_2 < ((rd_L5 l1 x6_1).length : Int) := of_decide_eq_true (by first | (with_reducible assumption) | assumption)
              obtain ⟨ad147, e147, hx147_0⟩ := Kd.at_int HR146_0.out x7_2 p147 q147
              have hw147_0 := hx147_0
              cases e147
              replace hx147_0 := (HB.out.cell (World.block_lt_of_cell? w _ hx147_0)).trans hx147_0
              replace p147 := eq_true p147
              replace q147 := eq_true q147
              refine start_ (n := 11) (S := fun w' => w'.cell? ⟨gb141, 0, none⟩ = some (.int .i64 a0_0) ∧ w'.cell? ⟨gb141, 1, none⟩ = some (.slice A0_1 l0_1.length c0_1) ∧ w'.cell? (ad143.add (x6_1).toNat) = some (.slice (some ad147) (rd_L5 l1 x6_1).length c146_0) ∧ w'.cell? (ad147.add (x7_2).toNat) = some (.int .i64 (rd (rd_L5 l1 x6_1) x7_2))) (ds := []) #[false, false, false, false, false, false, false, false, false, false, false] (by kernel_rfl) rfl rfl ⟨(blk_cell BK141.out 0).trans rfl, (blk_cell BK141.out 1).trans rfl, ((HB.out.cell (World.block_lt_of_cell? w _ hw146_0)).trans hw146_0), ((HB.out.cell (World.block_lt_of_cell? w _ hw147_0)).trans hw147_0)⟩ (fun hHeld => ?_); refine with_tabW tangramref11_Check.tab11 tangramref11_Check.bits11 (fun HT_ HW_ => ?_)
              generalize wr.drew = w20 at BK141 HB HR146_0 hx146_0 hx147_0 hHeld ⊢
              refine pure_ (i := 1) (N := some 32) (v := ?_) (a' := ?_) #[false, true, false, false, false, false, false, false, false, false, false] rfl rfl (any_of HT_.out (by kernel_rfl)) (fun _ _ _ h => h) (Or.inl ⟨by rfl, ?_⟩) ?_ ?_
              rotate_left
              ·intro w'
               go_simp
               with_reducible rfl
              rotate_left
              ·simp only [Act.put, List.setIfInBounds_toArray, List.set_cons_zero, List.set_cons_succ, i64_w, i32_w]
               rfl
              refine pure_ (i := 2) (N := some 33) (v := ?_) (a' := ?_) #[false, true, true, false, false, false, false, false, false, false, false] rfl rfl (any_of HT_.out (by kernel_rfl)) (fun _ _ _ h => h) (Or.inl ⟨by rfl, ?_⟩) ?_ ?_
              rotate_left
              ·intro w'
               go_simp
               with_reducible rfl
              rotate_left
              ·simp only [Act.put, List.setIfInBounds_toArray, List.set_cons_zero, List.set_cons_succ, i64_w, i32_w]
               rfl
              refine pure_ (i := 3) (N := some 34) (v := ?_) (a' := ?_) #[false, true, true, true, false, false, false, false, false, false, false] rfl rfl (any_of HT_.out (by kernel_rfl)) (fun _ _ _ h => h) (Or.inl ⟨by rfl, ?_⟩) ?_ ?_
              rotate_left
              ·intro w'
               go_simp
               with_reducible rfl
              rotate_left
              ·simp only [Act.put, List.setIfInBounds_toArray, List.set_cons_zero, List.set_cons_succ, i64_w, i32_w]
               rfl
              refine pure_ (i := 5) (N := some 36) (v := ?_) (a' := ?_) #[false, true, true, true, false, true, false, false, false, false, false] rfl rfl (any_of HT_.out (by kernel_rfl)) (fun _ _ _ h => h) (Or.inl ⟨by rfl, ?_⟩) ?_ ?_
              rotate_left
              ·intro w'
               go_simp
               with_reducible rfl
              rotate_left
              ·simp only [Act.put, List.setIfInBounds_toArray, List.set_cons_zero, List.set_cons_succ, i64_w, i32_w]
               rfl
              refine pure_ (i := 8) (N := some 39) (v := ?_) (a' := ?_) #[false, true, true, true, false, true, false, false, true, false, false] rfl rfl (any_of HT_.out (by kernel_rfl)) (fun _ _ _ h => h) (Or.inl ⟨by rfl, ?_⟩) ?_ ?_
              rotate_left
              ·intro w'
               go_simp
               with_reducible rfl
              rotate_left
              ·simp only [Act.put, List.setIfInBounds_toArray, List.set_cons_zero, List.set_cons_succ, i64_w, i32_w]
               rfl
              refine take_ (i := 0) (N := some 31) (v := ?_) (a' := ?_) #[true, true, true, true, false, true, false, false, true, false, false] rfl rfl (take_ofW HT_.out HW_.out (by kernel_rfl)) (fun _ _ _ h => h) (Or.inl ⟨by rfl, ?_⟩) hHeld ?_ ?_
              rotate_left
              ·rintro w' ⟨s0, s1, s2, s3⟩
               go_simp
               with_reducible rfl
              rotate_left
              ·simp only [Act.put, List.setIfInBounds_toArray, List.set_cons_zero, List.set_cons_succ, i64_w, i32_w]
               rfl
              refine take_ (i := 4) (N := some 35) (v := ?_) (a' := ?_) #[true, true, true, true, true, true, false, false, true, false, false] rfl rfl (take_ofW HT_.out HW_.out (by kernel_rfl)) (fun _ _ _ h => h) (Or.inl ⟨by rfl, ?_⟩) hHeld ?_ ?_
              rotate_left
              ·rintro w' ⟨s0, s1, s2, s3⟩
               go_simp
               with_reducible rfl
              rotate_left
              ·simp only [Act.put, List.setIfInBounds_toArray, List.set_cons_zero, List.set_cons_succ, i64_w, i32_w]
               rfl
              refine pure_ (i := 6) (N := some 37) (v := ?_) (a' := ?_) #[true, true, true, true, true, true, true, false, true, false, false] rfl rfl (any_of HT_.out (by kernel_rfl)) (fun _ _ _ h => h) (Or.inl ⟨by rfl, ?_⟩) ?_ ?_
              rotate_left
              ·intro w'
               go_simp
               with_reducible rfl
              rotate_left
              ·simp only [Act.put, List.setIfInBounds_toArray, List.set_cons_zero, List.set_cons_succ, i64_w, i32_w]
               rfl
              refine take_ (i := 7) (N := some 38) (v := ?_) (a' := ?_) #[true, true, true, true, true, true, true, true, true, false, false] rfl rfl (take_ofW HT_.out HW_.out (by kernel_rfl)) (fun _ _ _ h => h) (Or.inl ⟨by rfl, ?_⟩) hHeld ?_ ?_
              rotate_left
              ·rintro w' ⟨s0, s1, s2, s3⟩
               go_simp
               with_reducible rfl
              rotate_left
              ·simp only [Act.put, List.setIfInBounds_toArray, List.set_cons_zero, List.set_cons_succ, i64_w, i32_w]
               rfl
              refine one_ (i := 9) (N := some 40) #[true, true, true, true, true, true, true, true, true, true, false] rfl rfl (one_of HT_.out (by kernel_rfl)) (by decide) (fun K hK => ?_)
              refine goes_ Try.func37 (by kernel_rfl) rfl #[.agg #[.int .i64 a0_0, .slice A0_1 l0_1.length c0_1], .int .i64 (rd (rd_L5 l1 x6_1) x7_2), .int .i64 x6_1] (by rfl) rfl rfl (by (try simp only [List.map_toArray, List.map_cons, List.map_nil]); first | done | rfl | (simp only [List.length_drop, List.length_take]; rfl)) ?_
              with_reducible refine (tangramref11_leaves.calls a0_0 _ _ l0_1 (rd (rd_L5 l1 x6_1) x7_2) x6_1 true _ ?side1 ?side2 A16.out).mono ?_
              (case side1 => repeat (first | exact (Kd.C_below HR0_1.out HB.out) | (with_reducible refine Kd.C_alloc ?_ _) | (with_reducible refine Kd.C_drewN ?_ _) | (with_reducible refine Kd.C_drew ?_)))
              (case side2 => exact HC0_1.out)
              rintro e w21 ⟨rfl, hb⟩
              refine ⟨_, rfl, ?_⟩
              have n0_ := Aside0.mk (blk_below (g := gb141) (o := .cells #[.int .i64 a0_0, .slice A0_1 l0_1.length c0_1] 24 (0, 0)) (by (with_reducible repeat (first | refine blk_drewN ?_ _ | refine blk_drew ?_ | refine blk_alloc ?_ _)); exact BK141.out) hb)
              have n1_ := Aside0.mk (below_step (by repeat (first | (with_reducible first | exact HB.out | apply below_alloc | apply pw_below_drewN | apply below_drew1 | refine below_set ?_ GE141.out) | exact HB.out)) hb)
              clear BK141
              clear HB
              have BK141 := n0_
              have HB := n1_
              clear n0_ n1_
              (try clear hb)
              (try clear hb2)
              (try clear hk)
              (try clear hi)
              refine hK.out _ _ ⟨(blk_cell BK141.out 0).trans rfl, (blk_cell BK141.out 1).trans rfl, ((HB.out.cell (World.block_lt_of_cell? w _ hw146_0)).trans hw146_0), ((HB.out.cell (World.block_lt_of_cell? w _ hw147_0)).trans hw147_0)⟩ (fun hHeld => ?_)
              clear hK K
              refine norm_ (a' := ?_) ?_ ?_
              rotate_left
              ·show Act.put _ (some 40) _ = _
               simp only [Act.put, List.setIfInBounds_toArray, List.set_cons_zero, List.set_cons_succ, i64_w, i32_w]
               rfl
              refine pure_ (i := 10) (N := some 41) (v := ?_) (a' := ?_) #[true, true, true, true, true, true, true, true, true, true, true] rfl rfl (any_of HT_.out (by kernel_rfl)) (fun _ _ _ h => h) (Or.inl ⟨by rfl, ?_⟩) ?_ ?_
              rotate_left
              ·intro w'
               go_simp
               with_reducible rfl
              rotate_left
              ·simp only [Act.put, List.setIfInBounds_toArray, List.set_cons_zero, List.set_cons_succ, i64_w, i32_w]
               rfl
              refine done_ (done_of HT_.out (by kernel_rfl)) ?_
              try go_wp2
              have n0_ := Aside0.mk (blk_drew BK141.out)
              have n1_ := Aside0.mk (below_drew1 HB.out)
              clear BK141
              clear HB
              have BK141 := n0_
              have HB := n1_
              clear n0_ n1_
              have p149 : 0 ≤ (x6_1 : Int) := of_decide_eq_true (by first | (with_reducible assumption) | assumption)
              have q149 : x6_1 < (l1.length : Int) := of_decide_eq_true (by first | (with_reducible assumption) | assumption)
              obtain ⟨ad149, A149_0, c149_0, e149, hx149_0, hl149_0, hi149_0⟩ := at_L5 HR1.out x6_1 p149 q149
              have hw149_0 := hx149_0
              obtain rfl : ad143 = ad149 := (by injection e149)
              replace hx149_0 := (HB.out.cell (World.block_lt_of_cell? w _ hx149_0)).trans hx149_0
              have HR149_0 := Aside0.mk hi149_0
              have HC149_0 := Aside0.mk hl149_0
              clear hi149_0 hl149_0
              replace p149 := eq_true p149
              replace q149 := eq_true q149
              have p150 : 0 ≤ (x6_1 : Int) := of_decide_eq_true (by first | (with_reducible assumption) | assumption)
              have q150 : x6_1 < (l1.length : Int) := of_decide_eq_true (by first | (with_reducible assumption) | assumption)
              obtain ⟨ad150, A150_0, c150_0, e150, hx150_0, hl150_0, hi150_0⟩ := at_L5 HR1.out x6_1 p150 q150
              have hw150_0 := hx150_0
              obtain rfl : ad143 = ad150 := (by injection e150)
              replace hx150_0 := (HB.out.cell (World.block_lt_of_cell? w _ hx150_0)).trans hx150_0
              have HR150_0 := Aside0.mk hi150_0
              have HC150_0 := Aside0.mk hl150_0
              clear hi150_0 hl150_0
              replace p150 := eq_true p150
              replace q150 := eq_true q150
              have ea_ := Option.some.inj (hx149_0.symm.trans hx150_0)
              injection ea_ with ea_ en_ ec_
              subst ea_
              subst ec_
              clear en_
              have p151 : 0 ≤ (x7_2 : Int) := of_decide_eq_true (by first | (with_reducible assumption) | assumption)
              have q151 : x7_2 < ((rd_L5 l1 x6_1).length : Int) := of_decide_eq_true (by first | (with_reducible assumption) | assumption)
              obtain ⟨ad151, e151, hx151_0⟩ := Kd.at_int HR150_0.out x7_2 p151 q151
              have hw151_0 := hx151_0
              cases e151
              replace hx151_0 := (HB.out.cell (World.block_lt_of_cell? w _ hx151_0)).trans hx151_0
              replace p151 := eq_true p151
              replace q151 := eq_true q151
              refine start_ (n := 13) (S := fun w' => w'.cell? (ad143.add (x6_1).toNat) = some (.slice (some ad151) (rd_L5 l1 x6_1).length c149_0) ∧ w'.cell? (ad143.add (x6_1).toNat) = some (.slice (some ad151) (rd_L5 l1 x6_1).length c149_0) ∧ w'.cell? (ad151.add (x7_2).toNat) = some (.int .i64 (rd (rd_L5 l1 x6_1) x7_2))) (ds := []) #[false, false, false, false, false, false, false, false, false, false, false, false, false] (by kernel_rfl) rfl rfl ⟨((HB.out.cell (World.block_lt_of_cell? w _ hw149_0)).trans hw149_0), ((HB.out.cell (World.block_lt_of_cell? w _ hw150_0)).trans hw150_0), ((HB.out.cell (World.block_lt_of_cell? w _ hw151_0)).trans hw151_0)⟩ (fun hHeld => ?_); refine with_tabW tangramref11_Check.tab13 tangramref11_Check.bits13 (fun HT_ HW_ => ?_)
              generalize w21.drew = w22 at BK141 HB HR149_0 HR150_0 hx149_0 hx150_0 hx151_0 hHeld ⊢
              refine pure_ (i := 0) (N := some 43) (v := ?_) (a' := ?_) #[true, false, false, false, false, false, false, false, false, false, false, false, false] rfl rfl (any_of HT_.out (by kernel_rfl)) (fun _ _ _ h => h) (Or.inl ⟨by rfl, ?_⟩) ?_ ?_
              rotate_left
              ·intro w'
               go_simp
               with_reducible rfl
              rotate_left
              ·simp only [Act.put, List.setIfInBounds_toArray, List.set_cons_zero, List.set_cons_succ, i64_w, i32_w]
               rfl
              refine pure_ (i := 1) (N := some 44) (v := ?_) (a' := ?_) #[true, true, false, false, false, false, false, false, false, false, false, false, false] rfl rfl (any_of HT_.out (by kernel_rfl)) (fun _ _ _ h => h) (Or.inl ⟨by rfl, ?_⟩) ?_ ?_
              rotate_left
              ·intro w'
               go_simp
               with_reducible rfl
              rotate_left
              ·simp only [Act.put, List.setIfInBounds_toArray, List.set_cons_zero, List.set_cons_succ, i64_w, i32_w]
               rfl
              refine pure_ (i := 2) (N := some 45) (v := ?_) (a' := ?_) #[true, true, true, false, false, false, false, false, false, false, false, false, false] rfl rfl (any_of HT_.out (by kernel_rfl)) (fun _ _ _ h => h) (Or.inl ⟨by rfl, ?_⟩) ?_ ?_
              rotate_left
              ·intro w'
               go_simp
               with_reducible rfl
              rotate_left
              ·simp only [Act.put, List.setIfInBounds_toArray, List.set_cons_zero, List.set_cons_succ, i64_w, i32_w]
               rfl
              refine pure_ (i := 4) (N := some 47) (v := ?_) (a' := ?_) #[true, true, true, false, true, false, false, false, false, false, false, false, false] rfl rfl (any_of HT_.out (by kernel_rfl)) (fun _ _ _ h => h) (Or.inl ⟨by rfl, ?_⟩) ?_ ?_
              rotate_left
              ·intro w'
               go_simp
               with_reducible rfl
              rotate_left
              ·simp only [Act.put, List.setIfInBounds_toArray, List.set_cons_zero, List.set_cons_succ, i64_w, i32_w]
               rfl
              refine pure_ (i := 5) (N := some 48) (v := ?_) (a' := ?_) #[true, true, true, false, true, true, false, false, false, false, false, false, false] rfl rfl (any_of HT_.out (by kernel_rfl)) (fun _ _ _ h => h) (Or.inl ⟨by rfl, ?_⟩) ?_ ?_
              rotate_left
              ·intro w'
               go_simp
               with_reducible rfl
              rotate_left
              ·simp only [Act.put, List.setIfInBounds_toArray, List.set_cons_zero, List.set_cons_succ, i64_w, i32_w]
               rfl
              refine pure_ (i := 6) (N := some 49) (v := ?_) (a' := ?_) #[true, true, true, false, true, true, true, false, false, false, false, false, false] rfl rfl (any_of HT_.out (by kernel_rfl)) (fun _ _ _ h => h) (Or.inl ⟨by rfl, ?_⟩) ?_ ?_
              rotate_left
              ·intro w'
               go_simp
               with_reducible rfl
              rotate_left
              ·simp only [Act.put, List.setIfInBounds_toArray, List.set_cons_zero, List.set_cons_succ, i64_w, i32_w]
               rfl
              refine pure_ (i := 7) (N := some 50) (v := ?_) (a' := ?_) #[true, true, true, false, true, true, true, true, false, false, false, false, false] rfl rfl (any_of HT_.out (by kernel_rfl)) (fun _ _ _ h => h) (Or.inl ⟨by rfl, ?_⟩) ?_ ?_
              rotate_left
              ·intro w'
               go_simp
               with_reducible rfl
              rotate_left
              ·simp only [Act.put, List.setIfInBounds_toArray, List.set_cons_zero, List.set_cons_succ, i64_w, i32_w]
               rfl
              refine pure_ (i := 9) (N := some 52) (v := ?_) (a' := ?_) #[true, true, true, false, true, true, true, true, false, true, false, false, false] rfl rfl (any_of HT_.out (by kernel_rfl)) (fun _ _ _ h => h) (Or.inl ⟨by rfl, ?_⟩) ?_ ?_
              rotate_left
              ·intro w'
               go_simp
               with_reducible rfl
              rotate_left
              ·simp only [Act.put, List.setIfInBounds_toArray, List.set_cons_zero, List.set_cons_succ, i64_w, i32_w]
               rfl
              refine take_ (i := 3) (N := some 46) (v := ?_) (a' := ?_) #[true, true, true, true, true, true, true, true, false, true, false, false, false] rfl rfl (take_ofW HT_.out HW_.out (by kernel_rfl)) (fun _ _ _ h => h) (Or.inl ⟨by rfl, ?_⟩) hHeld ?_ ?_
              rotate_left
              ·rintro w' ⟨s0, s1, s2⟩
               go_simp
               with_reducible rfl
              rotate_left
              ·simp only [Act.put, List.setIfInBounds_toArray, List.set_cons_zero, List.set_cons_succ, i64_w, i32_w]
               rfl
              refine take_ (i := 8) (N := some 51) (v := ?_) (a' := ?_) #[true, true, true, true, true, true, true, true, true, true, false, false, false] rfl rfl (take_ofW HT_.out HW_.out (by kernel_rfl)) (fun _ _ _ h => h) (Or.inl ⟨by rfl, ?_⟩) hHeld ?_ ?_
              rotate_left
              ·rintro w' ⟨s0, s1, s2⟩
               go_simp
               with_reducible rfl
              rotate_left
              ·simp only [Act.put, List.setIfInBounds_toArray, List.set_cons_zero, List.set_cons_succ, i64_w, i32_w]
               rfl
              refine pure_ (i := 10) (N := some 53) (v := ?_) (a' := ?_) #[true, true, true, true, true, true, true, true, true, true, true, false, false] rfl rfl (any_of HT_.out (by kernel_rfl)) (fun _ _ _ h => h) (Or.inl ⟨by rfl, ?_⟩) ?_ ?_
              rotate_left
              ·intro w'
               go_simp
               with_reducible rfl
              rotate_left
              ·simp only [Act.put, List.setIfInBounds_toArray, List.set_cons_zero, List.set_cons_succ, i64_w, i32_w]
               rfl
              refine take_ (i := 11) (N := some 54) (v := ?_) (a' := ?_) #[true, true, true, true, true, true, true, true, true, true, true, true, false] rfl rfl (take_ofW HT_.out HW_.out (by kernel_rfl)) (fun _ _ _ h => h) (Or.inl ⟨by rfl, ?_⟩) hHeld ?_ ?_
              rotate_left
              ·rintro w' ⟨s0, s1, s2⟩
               go_simp
               with_reducible rfl
              rotate_left
              ·simp only [Act.put, List.setIfInBounds_toArray, List.set_cons_zero, List.set_cons_succ, i64_w, i32_w]
               rfl
              refine one_ (i := 12) (N := some 55) #[true, true, true, true, true, true, true, true, true, true, true, true, true] rfl rfl (one_of HT_.out (by kernel_rfl)) (by decide) (fun K hK => ?_)
              refine goes_ Try.func38 (by kernel_rfl) rfl #[.slice (some ad151) (rd_L5 l1 x6_1).length c149_0, .int .i64 x7_2, .int .i64 (rd (rd_L5 l1 x6_1) x7_2)] (by rfl) rfl rfl (by (try simp only [List.map_toArray, List.map_cons, List.map_nil]); first | done | rfl | (simp only [List.length_drop, List.length_take]; rfl)) ?_
              with_reducible refine (tangramref11_stands.calls k2 _ _ (rd_L5 l1 x6_1) x7_2 (rd (rd_L5 l1 x6_1) x7_2) true _ ?side1 ?side2 A18.out).mono ?_
              (case side1 => repeat (first | exact (Kd.C_below HR149_0.out HB.out) | (with_reducible refine Kd.C_alloc ?_ _) | (with_reducible refine Kd.C_drewN ?_ _) | (with_reducible refine Kd.C_drew ?_)))
              (case side2 => exact HC149_0.out)
              rintro e w' ⟨rfl, ⟨nd, rfl⟩⟩
              refine ⟨_, rfl, ?_⟩
              refine hK.out _ _ ⟨((HB.out.cell (World.block_lt_of_cell? w _ hw149_0)).trans hw149_0), ((HB.out.cell (World.block_lt_of_cell? w _ hw150_0)).trans hw150_0), ((HB.out.cell (World.block_lt_of_cell? w _ hw151_0)).trans hw151_0)⟩ (fun hHeld => ?_)
              clear hK K
              refine norm_ (a' := ?_) ?_ ?_
              rotate_left
              ·show Act.put _ (some 55) _ = _
               simp only [Act.put, List.setIfInBounds_toArray, List.set_cons_zero, List.set_cons_succ, i64_w, i32_w]
               rfl
              refine done_ (done_of HT_.out (by kernel_rfl)) ?_
              try go_wp2
              go_ret2
              exact ⟨by first | rfl | (simp [errW_none, errW_some] <;> rfl) | (simp [*, errW_none, errW_some] <;> rfl), by repeat (first | (with_reducible first | exact HB.out | apply below_alloc | apply pw_below_drewN | apply below_drew1 | refine below_set ?_ GE141.out) | exact HB.out)⟩
             ·replace c19 := Bool.eq_false_iff.mpr c19
              subst c19
              have H1 : (tangramref11_Check.l1 k2 l1 x6_1 (wrap64 (x7_2 + 1)) a0_0 l0_1) = some (r1, r2) := by rw [if_neg (show ¬ (false = true) by decide)] at H; exact H
              clear H
              have H := H1
              clear H1
              have H' := Aside0.mk H
              clear H
              have p143 : 0 ≤ (x6_1 : Int) := of_decide_eq_true (by first | (with_reducible assumption) | assumption)
              have q143 : x6_1 < (l1.length : Int) := of_decide_eq_true (by first | (with_reducible assumption) | assumption)
              obtain ⟨ad143, A143_0, c143_0, e143, hx143_0, hl143_0, hi143_0⟩ := at_L5 HR1.out x6_1 p143 q143
              cases e143
              replace hx143_0 := (HB.out.cell (World.block_lt_of_cell? w _ hx143_0)).trans hx143_0
              have HR143_0 := Aside0.mk hi143_0
              have HC143_0 := Aside0.mk hl143_0
              clear hi143_0 hl143_0
              replace p143 := eq_true p143
              replace q143 := eq_true q143
              try go_wp2
              have n0_ := Aside0.mk (blk_drew BK141.out)
              have n1_ := Aside0.mk (below_drew1 HB.out)
              clear BK141
              clear HB
              have BK141 := n0_
              have HB := n1_
              clear n0_ n1_
              have p146 : 0 ≤ (x6_1 : Int) := of_decide_eq_true (by first | (with_reducible assumption) | assumption)
              have q146 : x6_1 < (l1.length : Int) := of_decide_eq_true (by first | (with_reducible assumption) | assumption)
              obtain ⟨ad146, A146_0, c146_0, e146, hx146_0, hl146_0, hi146_0⟩ := at_L5 HR1.out x6_1 p146 q146
              have hw146_0 := hx146_0
              obtain rfl : ad143 = ad146 := (by injection e146)
              replace hx146_0 := (HB.out.cell (World.block_lt_of_cell? w _ hx146_0)).trans hx146_0
              have HR146_0 := Aside0.mk hi146_0
              have HC146_0 := Aside0.mk hl146_0
              clear hi146_0 hl146_0
              replace p146 := eq_true p146
              replace q146 := eq_true q146
              have p147 : 0 ≤ (x7_2 : Int) := of_decide_eq_true (by first | (with_reducible assumption) | assumption)
              have q147 : x7_2 < ((rd_L5 l1 x6_1).length : Int) := of_decide_eq_true (by first | (with_reducible assumption) | assumption)
              obtain ⟨ad147, e147, hx147_0⟩ := Kd.at_int HR146_0.out x7_2 p147 q147
              have hw147_0 := hx147_0
              cases e147
              replace hx147_0 := (HB.out.cell (World.block_lt_of_cell? w _ hx147_0)).trans hx147_0
              replace p147 := eq_true p147
              replace q147 := eq_true q147
              refine start_ (n := 11) (S := fun w' => w'.cell? ⟨gb141, 0, none⟩ = some (.int .i64 a0_0) ∧ w'.cell? ⟨gb141, 1, none⟩ = some (.slice A0_1 l0_1.length c0_1) ∧ w'.cell? (ad143.add (x6_1).toNat) = some (.slice (some ad147) (rd_L5 l1 x6_1).length c146_0) ∧ w'.cell? (ad147.add (x7_2).toNat) = some (.int .i64 (rd (rd_L5 l1 x6_1) x7_2))) (ds := []) #[false, false, false, false, false, false, false, false, false, false, false] (by kernel_rfl) rfl rfl ⟨(blk_cell BK141.out 0).trans rfl, (blk_cell BK141.out 1).trans rfl, ((HB.out.cell (World.block_lt_of_cell? w _ hw146_0)).trans hw146_0), ((HB.out.cell (World.block_lt_of_cell? w _ hw147_0)).trans hw147_0)⟩ (fun hHeld => ?_); refine with_tabW tangramref11_Check.tab11 tangramref11_Check.bits11 (fun HT_ HW_ => ?_)
              generalize wr.drew = w23 at BK141 HB HR146_0 hx146_0 hx147_0 hHeld ⊢
              refine pure_ (i := 1) (N := some 32) (v := ?_) (a' := ?_) #[false, true, false, false, false, false, false, false, false, false, false] rfl rfl (any_of HT_.out (by kernel_rfl)) (fun _ _ _ h => h) (Or.inl ⟨by rfl, ?_⟩) ?_ ?_
              rotate_left
              ·intro w'
               go_simp
               with_reducible rfl
              rotate_left
              ·simp only [Act.put, List.setIfInBounds_toArray, List.set_cons_zero, List.set_cons_succ, i64_w, i32_w]
               rfl
              refine pure_ (i := 2) (N := some 33) (v := ?_) (a' := ?_) #[false, true, true, false, false, false, false, false, false, false, false] rfl rfl (any_of HT_.out (by kernel_rfl)) (fun _ _ _ h => h) (Or.inl ⟨by rfl, ?_⟩) ?_ ?_
              rotate_left
              ·intro w'
               go_simp
               with_reducible rfl
              rotate_left
              ·simp only [Act.put, List.setIfInBounds_toArray, List.set_cons_zero, List.set_cons_succ, i64_w, i32_w]
               rfl
              refine pure_ (i := 3) (N := some 34) (v := ?_) (a' := ?_) #[false, true, true, true, false, false, false, false, false, false, false] rfl rfl (any_of HT_.out (by kernel_rfl)) (fun _ _ _ h => h) (Or.inl ⟨by rfl, ?_⟩) ?_ ?_
              rotate_left
              ·intro w'
               go_simp
               with_reducible rfl
              rotate_left
              ·simp only [Act.put, List.setIfInBounds_toArray, List.set_cons_zero, List.set_cons_succ, i64_w, i32_w]
               rfl
              refine pure_ (i := 5) (N := some 36) (v := ?_) (a' := ?_) #[false, true, true, true, false, true, false, false, false, false, false] rfl rfl (any_of HT_.out (by kernel_rfl)) (fun _ _ _ h => h) (Or.inl ⟨by rfl, ?_⟩) ?_ ?_
              rotate_left
              ·intro w'
               go_simp
               with_reducible rfl
              rotate_left
              ·simp only [Act.put, List.setIfInBounds_toArray, List.set_cons_zero, List.set_cons_succ, i64_w, i32_w]
               rfl
              refine pure_ (i := 8) (N := some 39) (v := ?_) (a' := ?_) #[false, true, true, true, false, true, false, false, true, false, false] rfl rfl (any_of HT_.out (by kernel_rfl)) (fun _ _ _ h => h) (Or.inl ⟨by rfl, ?_⟩) ?_ ?_
              rotate_left
              ·intro w'
               go_simp
               with_reducible rfl
              rotate_left
              ·simp only [Act.put, List.setIfInBounds_toArray, List.set_cons_zero, List.set_cons_succ, i64_w, i32_w]
               rfl
              refine take_ (i := 0) (N := some 31) (v := ?_) (a' := ?_) #[true, true, true, true, false, true, false, false, true, false, false] rfl rfl (take_ofW HT_.out HW_.out (by kernel_rfl)) (fun _ _ _ h => h) (Or.inl ⟨by rfl, ?_⟩) hHeld ?_ ?_
              rotate_left
              ·rintro w' ⟨s0, s1, s2, s3⟩
               go_simp
               with_reducible rfl
              rotate_left
              ·simp only [Act.put, List.setIfInBounds_toArray, List.set_cons_zero, List.set_cons_succ, i64_w, i32_w]
               rfl
              refine take_ (i := 4) (N := some 35) (v := ?_) (a' := ?_) #[true, true, true, true, true, true, false, false, true, false, false] rfl rfl (take_ofW HT_.out HW_.out (by kernel_rfl)) (fun _ _ _ h => h) (Or.inl ⟨by rfl, ?_⟩) hHeld ?_ ?_
              rotate_left
              ·rintro w' ⟨s0, s1, s2, s3⟩
               go_simp
               with_reducible rfl
              rotate_left
              ·simp only [Act.put, List.setIfInBounds_toArray, List.set_cons_zero, List.set_cons_succ, i64_w, i32_w]
               rfl
              refine pure_ (i := 6) (N := some 37) (v := ?_) (a' := ?_) #[true, true, true, true, true, true, true, false, true, false, false] rfl rfl (any_of HT_.out (by kernel_rfl)) (fun _ _ _ h => h) (Or.inl ⟨by rfl, ?_⟩) ?_ ?_
              rotate_left
              ·intro w'
               go_simp
               with_reducible rfl
              rotate_left
              ·simp only [Act.put, List.setIfInBounds_toArray, List.set_cons_zero, List.set_cons_succ, i64_w, i32_w]
               rfl
              refine take_ (i := 7) (N := some 38) (v := ?_) (a' := ?_) #[true, true, true, true, true, true, true, true, true, false, false] rfl rfl (take_ofW HT_.out HW_.out (by kernel_rfl)) (fun _ _ _ h => h) (Or.inl ⟨by rfl, ?_⟩) hHeld ?_ ?_
              rotate_left
              ·rintro w' ⟨s0, s1, s2, s3⟩
               go_simp
               with_reducible rfl
              rotate_left
              ·simp only [Act.put, List.setIfInBounds_toArray, List.set_cons_zero, List.set_cons_succ, i64_w, i32_w]
               rfl
              refine one_ (i := 9) (N := some 40) #[true, true, true, true, true, true, true, true, true, true, false] rfl rfl (one_of HT_.out (by kernel_rfl)) (by decide) (fun K hK => ?_)
              refine goes_ Try.func37 (by kernel_rfl) rfl #[.agg #[.int .i64 a0_0, .slice A0_1 l0_1.length c0_1], .int .i64 (rd (rd_L5 l1 x6_1) x7_2), .int .i64 x6_1] (by rfl) rfl rfl (by (try simp only [List.map_toArray, List.map_cons, List.map_nil]); first | done | rfl | (simp only [List.length_drop, List.length_take]; rfl)) ?_
              with_reducible refine (tangramref11_leaves.calls a0_0 _ _ l0_1 (rd (rd_L5 l1 x6_1) x7_2) x6_1 true _ ?side1 ?side2 A16.out).mono ?_
              (case side1 => repeat (first | exact (Kd.C_below HR0_1.out HB.out) | (with_reducible refine Kd.C_alloc ?_ _) | (with_reducible refine Kd.C_drewN ?_ _) | (with_reducible refine Kd.C_drew ?_)))
              (case side2 => exact HC0_1.out)
              rintro e w24 ⟨rfl, hb⟩
              refine ⟨_, rfl, ?_⟩
              have n0_ := Aside0.mk (blk_below (g := gb141) (o := .cells #[.int .i64 a0_0, .slice A0_1 l0_1.length c0_1] 24 (0, 0)) (by (with_reducible repeat (first | refine blk_drewN ?_ _ | refine blk_drew ?_ | refine blk_alloc ?_ _)); exact BK141.out) hb)
              have n1_ := Aside0.mk (below_step (by repeat (first | (with_reducible first | exact HB.out | apply below_alloc | apply pw_below_drewN | apply below_drew1 | refine below_set ?_ GE141.out) | exact HB.out)) hb)
              clear BK141
              clear HB
              have BK141 := n0_
              have HB := n1_
              clear n0_ n1_
              (try clear hb)
              (try clear hb2)
              (try clear hk)
              (try clear hi)
              refine hK.out _ _ ⟨(blk_cell BK141.out 0).trans rfl, (blk_cell BK141.out 1).trans rfl, ((HB.out.cell (World.block_lt_of_cell? w _ hw146_0)).trans hw146_0), ((HB.out.cell (World.block_lt_of_cell? w _ hw147_0)).trans hw147_0)⟩ (fun hHeld => ?_)
              clear hK K
              refine norm_ (a' := ?_) ?_ ?_
              rotate_left
              ·show Act.put _ (some 40) _ = _
               simp only [Act.put, List.setIfInBounds_toArray, List.set_cons_zero, List.set_cons_succ, i64_w, i32_w]
               rfl
              refine pure_ (i := 10) (N := some 41) (v := ?_) (a' := ?_) #[true, true, true, true, true, true, true, true, true, true, true] rfl rfl (any_of HT_.out (by kernel_rfl)) (fun _ _ _ h => h) (Or.inl ⟨by rfl, ?_⟩) ?_ ?_
              rotate_left
              ·intro w'
               go_simp
               with_reducible rfl
              rotate_left
              ·simp only [Act.put, List.setIfInBounds_toArray, List.set_cons_zero, List.set_cons_succ, i64_w, i32_w]
               rfl
              refine done_ (done_of HT_.out (by kernel_rfl)) ?_
              try go_wp2
              have n0_ := Aside0.mk (blk_drew BK141.out)
              have n1_ := Aside0.mk (below_drew1 HB.out)
              clear BK141
              clear HB
              have BK141 := n0_
              have HB := n1_
              clear n0_ n1_
              have p149 : 0 ≤ (x6_1 : Int) := of_decide_eq_true (by first | (with_reducible assumption) | assumption)
              have q149 : x6_1 < (l1.length : Int) := of_decide_eq_true (by first | (with_reducible assumption) | assumption)
              obtain ⟨ad149, A149_0, c149_0, e149, hx149_0, hl149_0, hi149_0⟩ := at_L5 HR1.out x6_1 p149 q149
              have hw149_0 := hx149_0
              obtain rfl : ad143 = ad149 := (by injection e149)
              replace hx149_0 := (HB.out.cell (World.block_lt_of_cell? w _ hx149_0)).trans hx149_0
              have HR149_0 := Aside0.mk hi149_0
              have HC149_0 := Aside0.mk hl149_0
              clear hi149_0 hl149_0
              replace p149 := eq_true p149
              replace q149 := eq_true q149
              have p150 : 0 ≤ (x6_1 : Int) := of_decide_eq_true (by first | (with_reducible assumption) | assumption)
              have q150 : x6_1 < (l1.length : Int) := of_decide_eq_true (by first | (with_reducible assumption) | assumption)
              obtain ⟨ad150, A150_0, c150_0, e150, hx150_0, hl150_0, hi150_0⟩ := at_L5 HR1.out x6_1 p150 q150
              have hw150_0 := hx150_0
              obtain rfl : ad143 = ad150 := (by injection e150)
              replace hx150_0 := (HB.out.cell (World.block_lt_of_cell? w _ hx150_0)).trans hx150_0
              have HR150_0 := Aside0.mk hi150_0
              have HC150_0 := Aside0.mk hl150_0
              clear hi150_0 hl150_0
              replace p150 := eq_true p150
              replace q150 := eq_true q150
              have ea_ := Option.some.inj (hx149_0.symm.trans hx150_0)
              injection ea_ with ea_ en_ ec_
              subst ea_
              subst ec_
              clear en_
              have p151 : 0 ≤ (x7_2 : Int) := of_decide_eq_true (by first | (with_reducible assumption) | assumption)
              have q151 : x7_2 < ((rd_L5 l1 x6_1).length : Int) := of_decide_eq_true (by first | (with_reducible assumption) | assumption)
              obtain ⟨ad151, e151, hx151_0⟩ := Kd.at_int HR150_0.out x7_2 p151 q151
              have hw151_0 := hx151_0
              cases e151
              replace hx151_0 := (HB.out.cell (World.block_lt_of_cell? w _ hx151_0)).trans hx151_0
              replace p151 := eq_true p151
              replace q151 := eq_true q151
              refine start_ (n := 13) (S := fun w' => w'.cell? (ad143.add (x6_1).toNat) = some (.slice (some ad151) (rd_L5 l1 x6_1).length c149_0) ∧ w'.cell? (ad143.add (x6_1).toNat) = some (.slice (some ad151) (rd_L5 l1 x6_1).length c149_0) ∧ w'.cell? (ad151.add (x7_2).toNat) = some (.int .i64 (rd (rd_L5 l1 x6_1) x7_2))) (ds := []) #[false, false, false, false, false, false, false, false, false, false, false, false, false] (by kernel_rfl) rfl rfl ⟨((HB.out.cell (World.block_lt_of_cell? w _ hw149_0)).trans hw149_0), ((HB.out.cell (World.block_lt_of_cell? w _ hw150_0)).trans hw150_0), ((HB.out.cell (World.block_lt_of_cell? w _ hw151_0)).trans hw151_0)⟩ (fun hHeld => ?_); refine with_tabW tangramref11_Check.tab13 tangramref11_Check.bits13 (fun HT_ HW_ => ?_)
              generalize w24.drew = w25 at BK141 HB HR149_0 HR150_0 hx149_0 hx150_0 hx151_0 hHeld ⊢
              refine pure_ (i := 0) (N := some 43) (v := ?_) (a' := ?_) #[true, false, false, false, false, false, false, false, false, false, false, false, false] rfl rfl (any_of HT_.out (by kernel_rfl)) (fun _ _ _ h => h) (Or.inl ⟨by rfl, ?_⟩) ?_ ?_
              rotate_left
              ·intro w'
               go_simp
               with_reducible rfl
              rotate_left
              ·simp only [Act.put, List.setIfInBounds_toArray, List.set_cons_zero, List.set_cons_succ, i64_w, i32_w]
               rfl
              refine pure_ (i := 1) (N := some 44) (v := ?_) (a' := ?_) #[true, true, false, false, false, false, false, false, false, false, false, false, false] rfl rfl (any_of HT_.out (by kernel_rfl)) (fun _ _ _ h => h) (Or.inl ⟨by rfl, ?_⟩) ?_ ?_
              rotate_left
              ·intro w'
               go_simp
               with_reducible rfl
              rotate_left
              ·simp only [Act.put, List.setIfInBounds_toArray, List.set_cons_zero, List.set_cons_succ, i64_w, i32_w]
               rfl
              refine pure_ (i := 2) (N := some 45) (v := ?_) (a' := ?_) #[true, true, true, false, false, false, false, false, false, false, false, false, false] rfl rfl (any_of HT_.out (by kernel_rfl)) (fun _ _ _ h => h) (Or.inl ⟨by rfl, ?_⟩) ?_ ?_
              rotate_left
              ·intro w'
               go_simp
               with_reducible rfl
              rotate_left
              ·simp only [Act.put, List.setIfInBounds_toArray, List.set_cons_zero, List.set_cons_succ, i64_w, i32_w]
               rfl
              refine pure_ (i := 4) (N := some 47) (v := ?_) (a' := ?_) #[true, true, true, false, true, false, false, false, false, false, false, false, false] rfl rfl (any_of HT_.out (by kernel_rfl)) (fun _ _ _ h => h) (Or.inl ⟨by rfl, ?_⟩) ?_ ?_
              rotate_left
              ·intro w'
               go_simp
               with_reducible rfl
              rotate_left
              ·simp only [Act.put, List.setIfInBounds_toArray, List.set_cons_zero, List.set_cons_succ, i64_w, i32_w]
               rfl
              refine pure_ (i := 5) (N := some 48) (v := ?_) (a' := ?_) #[true, true, true, false, true, true, false, false, false, false, false, false, false] rfl rfl (any_of HT_.out (by kernel_rfl)) (fun _ _ _ h => h) (Or.inl ⟨by rfl, ?_⟩) ?_ ?_
              rotate_left
              ·intro w'
               go_simp
               with_reducible rfl
              rotate_left
              ·simp only [Act.put, List.setIfInBounds_toArray, List.set_cons_zero, List.set_cons_succ, i64_w, i32_w]
               rfl
              refine pure_ (i := 6) (N := some 49) (v := ?_) (a' := ?_) #[true, true, true, false, true, true, true, false, false, false, false, false, false] rfl rfl (any_of HT_.out (by kernel_rfl)) (fun _ _ _ h => h) (Or.inl ⟨by rfl, ?_⟩) ?_ ?_
              rotate_left
              ·intro w'
               go_simp
               with_reducible rfl
              rotate_left
              ·simp only [Act.put, List.setIfInBounds_toArray, List.set_cons_zero, List.set_cons_succ, i64_w, i32_w]
               rfl
              refine pure_ (i := 7) (N := some 50) (v := ?_) (a' := ?_) #[true, true, true, false, true, true, true, true, false, false, false, false, false] rfl rfl (any_of HT_.out (by kernel_rfl)) (fun _ _ _ h => h) (Or.inl ⟨by rfl, ?_⟩) ?_ ?_
              rotate_left
              ·intro w'
               go_simp
               with_reducible rfl
              rotate_left
              ·simp only [Act.put, List.setIfInBounds_toArray, List.set_cons_zero, List.set_cons_succ, i64_w, i32_w]
               rfl
              refine pure_ (i := 9) (N := some 52) (v := ?_) (a' := ?_) #[true, true, true, false, true, true, true, true, false, true, false, false, false] rfl rfl (any_of HT_.out (by kernel_rfl)) (fun _ _ _ h => h) (Or.inl ⟨by rfl, ?_⟩) ?_ ?_
              rotate_left
              ·intro w'
               go_simp
               with_reducible rfl
              rotate_left
              ·simp only [Act.put, List.setIfInBounds_toArray, List.set_cons_zero, List.set_cons_succ, i64_w, i32_w]
               rfl
              refine take_ (i := 3) (N := some 46) (v := ?_) (a' := ?_) #[true, true, true, true, true, true, true, true, false, true, false, false, false] rfl rfl (take_ofW HT_.out HW_.out (by kernel_rfl)) (fun _ _ _ h => h) (Or.inl ⟨by rfl, ?_⟩) hHeld ?_ ?_
              rotate_left
              ·rintro w' ⟨s0, s1, s2⟩
               go_simp
               with_reducible rfl
              rotate_left
              ·simp only [Act.put, List.setIfInBounds_toArray, List.set_cons_zero, List.set_cons_succ, i64_w, i32_w]
               rfl
              refine take_ (i := 8) (N := some 51) (v := ?_) (a' := ?_) #[true, true, true, true, true, true, true, true, true, true, false, false, false] rfl rfl (take_ofW HT_.out HW_.out (by kernel_rfl)) (fun _ _ _ h => h) (Or.inl ⟨by rfl, ?_⟩) hHeld ?_ ?_
              rotate_left
              ·rintro w' ⟨s0, s1, s2⟩
               go_simp
               with_reducible rfl
              rotate_left
              ·simp only [Act.put, List.setIfInBounds_toArray, List.set_cons_zero, List.set_cons_succ, i64_w, i32_w]
               rfl
              refine pure_ (i := 10) (N := some 53) (v := ?_) (a' := ?_) #[true, true, true, true, true, true, true, true, true, true, true, false, false] rfl rfl (any_of HT_.out (by kernel_rfl)) (fun _ _ _ h => h) (Or.inl ⟨by rfl, ?_⟩) ?_ ?_
              rotate_left
              ·intro w'
               go_simp
               with_reducible rfl
              rotate_left
              ·simp only [Act.put, List.setIfInBounds_toArray, List.set_cons_zero, List.set_cons_succ, i64_w, i32_w]
               rfl
              refine take_ (i := 11) (N := some 54) (v := ?_) (a' := ?_) #[true, true, true, true, true, true, true, true, true, true, true, true, false] rfl rfl (take_ofW HT_.out HW_.out (by kernel_rfl)) (fun _ _ _ h => h) (Or.inl ⟨by rfl, ?_⟩) hHeld ?_ ?_
              rotate_left
              ·rintro w' ⟨s0, s1, s2⟩
               go_simp
               with_reducible rfl
              rotate_left
              ·simp only [Act.put, List.setIfInBounds_toArray, List.set_cons_zero, List.set_cons_succ, i64_w, i32_w]
               rfl
              refine one_ (i := 12) (N := some 55) #[true, true, true, true, true, true, true, true, true, true, true, true, true] rfl rfl (one_of HT_.out (by kernel_rfl)) (by decide) (fun K hK => ?_)
              refine goes_ Try.func38 (by kernel_rfl) rfl #[.slice (some ad151) (rd_L5 l1 x6_1).length c149_0, .int .i64 x7_2, .int .i64 (rd (rd_L5 l1 x6_1) x7_2)] (by rfl) rfl rfl (by (try simp only [List.map_toArray, List.map_cons, List.map_nil]); first | done | rfl | (simp only [List.length_drop, List.length_take]; rfl)) ?_
              with_reducible refine (tangramref11_stands.calls k2 _ _ (rd_L5 l1 x6_1) x7_2 (rd (rd_L5 l1 x6_1) x7_2) false _ ?side1 ?side2 A18.out).mono ?_
              (case side1 => repeat (first | exact (Kd.C_below HR149_0.out HB.out) | (with_reducible refine Kd.C_alloc ?_ _) | (with_reducible refine Kd.C_drewN ?_ _) | (with_reducible refine Kd.C_drew ?_)))
              (case side2 => exact HC149_0.out)
              rintro e w' ⟨rfl, ⟨nd, rfl⟩⟩
              refine ⟨_, rfl, ?_⟩
              refine hK.out _ _ ⟨((HB.out.cell (World.block_lt_of_cell? w _ hw149_0)).trans hw149_0), ((HB.out.cell (World.block_lt_of_cell? w _ hw150_0)).trans hw150_0), ((HB.out.cell (World.block_lt_of_cell? w _ hw151_0)).trans hw151_0)⟩ (fun hHeld => ?_)
              clear hK K
              refine norm_ (a' := ?_) ?_ ?_
              rotate_left
              ·show Act.put _ (some 55) _ = _
               simp only [Act.put, List.setIfInBounds_toArray, List.set_cons_zero, List.set_cons_succ, i64_w, i32_w]
               rfl
              refine done_ (done_of HT_.out (by kernel_rfl)) ?_
              try go_wp2
              go_roundg k2
              case measure => have := HK1.out; have := HK2.out; omega
              case rel => exact ⟨(wrap64 (x7_2 + 1)), (by first | rfl | (simp; done) | (simp [*]; done)), H', ⟨by have := HK1.out; have := HK2.out; omega⟩, ⟨by (with_reducible repeat (first | refine blk_drewN ?_ _ | refine blk_drew ?_ | refine blk_alloc ?_ _)); exact BK141.out⟩, ⟨by repeat (first | (with_reducible first | exact HB.out | apply below_alloc | apply pw_below_drewN | apply below_drew1 | refine below_set ?_ GE141.out) | exact HB.out)⟩⟩
            ·replace c17 := Bool.eq_false_iff.mpr c17
             subst c17
             have H1 : (some (x6_1, 111)) = some (r1, r2) := by rw [if_neg (show ¬ (false = true) by decide)] at H; exact H
             clear H
             have H := H1
             clear H1
             simp only [Option.some.injEq, Prod.mk.injEq] at H
             obtain ⟨rfl, rfl⟩ := H
             have p143 : 0 ≤ (x6_1 : Int) := of_decide_eq_true (by first | (with_reducible assumption) | assumption)
             have q143 : x6_1 < (l1.length : Int) := of_decide_eq_true (by first | (with_reducible assumption) | assumption)
             obtain ⟨ad143, A143_0, c143_0, e143, hx143_0, hl143_0, hi143_0⟩ := at_L5 HR1.out x6_1 p143 q143
             cases e143
             replace hx143_0 := (HB.out.cell (World.block_lt_of_cell? w _ hx143_0)).trans hx143_0
             have HR143_0 := Aside0.mk hi143_0
             have HC143_0 := Aside0.mk hl143_0
             clear hi143_0 hl143_0
             replace p143 := eq_true p143
             replace q143 := eq_true q143
             try go_wp2
             have n0_ := Aside0.mk (blk_drew BK141.out)
             have n1_ := Aside0.mk (below_drew1 HB.out)
             clear BK141
             clear HB
             have BK141 := n0_
             have HB := n1_
             clear n0_ n1_
             have p146 : 0 ≤ (x6_1 : Int) := of_decide_eq_true (by first | (with_reducible assumption) | assumption)
             have q146 : x6_1 < (l1.length : Int) := of_decide_eq_true (by first | (with_reducible assumption) | assumption)
             obtain ⟨ad146, A146_0, c146_0, e146, hx146_0, hl146_0, hi146_0⟩ := at_L5 HR1.out x6_1 p146 q146
             have hw146_0 := hx146_0
             obtain rfl : ad143 = ad146 := (by injection e146)
             replace hx146_0 := (HB.out.cell (World.block_lt_of_cell? w _ hx146_0)).trans hx146_0
             have HR146_0 := Aside0.mk hi146_0
             have HC146_0 := Aside0.mk hl146_0
             clear hi146_0 hl146_0
             replace p146 := eq_true p146
             replace q146 := eq_true q146
             have p147 : 0 ≤ (x7_2 : Int) := of_decide_eq_true (by first | (with_reducible assumption) | assumption)
             have q147 : x7_2 < ((rd_L5 l1 x6_1).length : Int) := of_decide_eq_true (by first | (with_reducible assumption) | assumption)
             obtain ⟨ad147, e147, hx147_0⟩ := Kd.at_int HR146_0.out x7_2 p147 q147
             have hw147_0 := hx147_0
             cases e147
             replace hx147_0 := (HB.out.cell (World.block_lt_of_cell? w _ hx147_0)).trans hx147_0
             replace p147 := eq_true p147
             replace q147 := eq_true q147
             refine start_ (n := 11) (S := fun w' => w'.cell? ⟨gb141, 0, none⟩ = some (.int .i64 a0_0) ∧ w'.cell? ⟨gb141, 1, none⟩ = some (.slice A0_1 l0_1.length c0_1) ∧ w'.cell? (ad143.add (x6_1).toNat) = some (.slice (some ad147) (rd_L5 l1 x6_1).length c146_0) ∧ w'.cell? (ad147.add (x7_2).toNat) = some (.int .i64 (rd (rd_L5 l1 x6_1) x7_2))) (ds := []) #[false, false, false, false, false, false, false, false, false, false, false] (by kernel_rfl) rfl rfl ⟨(blk_cell BK141.out 0).trans rfl, (blk_cell BK141.out 1).trans rfl, ((HB.out.cell (World.block_lt_of_cell? w _ hw146_0)).trans hw146_0), ((HB.out.cell (World.block_lt_of_cell? w _ hw147_0)).trans hw147_0)⟩ (fun hHeld => ?_); refine with_tabW tangramref11_Check.tab11 tangramref11_Check.bits11 (fun HT_ HW_ => ?_)
             generalize wr.drew = w26 at BK141 HB HR146_0 hx146_0 hx147_0 hHeld ⊢
             refine pure_ (i := 1) (N := some 32) (v := ?_) (a' := ?_) #[false, true, false, false, false, false, false, false, false, false, false] rfl rfl (any_of HT_.out (by kernel_rfl)) (fun _ _ _ h => h) (Or.inl ⟨by rfl, ?_⟩) ?_ ?_
             rotate_left
             ·intro w'
              go_simp
              with_reducible rfl
             rotate_left
             ·simp only [Act.put, List.setIfInBounds_toArray, List.set_cons_zero, List.set_cons_succ, i64_w, i32_w]
              rfl
             refine pure_ (i := 2) (N := some 33) (v := ?_) (a' := ?_) #[false, true, true, false, false, false, false, false, false, false, false] rfl rfl (any_of HT_.out (by kernel_rfl)) (fun _ _ _ h => h) (Or.inl ⟨by rfl, ?_⟩) ?_ ?_
             rotate_left
             ·intro w'
              go_simp
              with_reducible rfl
             rotate_left
             ·simp only [Act.put, List.setIfInBounds_toArray, List.set_cons_zero, List.set_cons_succ, i64_w, i32_w]
              rfl
             refine pure_ (i := 3) (N := some 34) (v := ?_) (a' := ?_) #[false, true, true, true, false, false, false, false, false, false, false] rfl rfl (any_of HT_.out (by kernel_rfl)) (fun _ _ _ h => h) (Or.inl ⟨by rfl, ?_⟩) ?_ ?_
             rotate_left
             ·intro w'
              go_simp
              with_reducible rfl
             rotate_left
             ·simp only [Act.put, List.setIfInBounds_toArray, List.set_cons_zero, List.set_cons_succ, i64_w, i32_w]
              rfl
             refine pure_ (i := 5) (N := some 36) (v := ?_) (a' := ?_) #[false, true, true, true, false, true, false, false, false, false, false] rfl rfl (any_of HT_.out (by kernel_rfl)) (fun _ _ _ h => h) (Or.inl ⟨by rfl, ?_⟩) ?_ ?_
             rotate_left
             ·intro w'
              go_simp
              with_reducible rfl
             rotate_left
             ·simp only [Act.put, List.setIfInBounds_toArray, List.set_cons_zero, List.set_cons_succ, i64_w, i32_w]
              rfl
             refine pure_ (i := 8) (N := some 39) (v := ?_) (a' := ?_) #[false, true, true, true, false, true, false, false, true, false, false] rfl rfl (any_of HT_.out (by kernel_rfl)) (fun _ _ _ h => h) (Or.inl ⟨by rfl, ?_⟩) ?_ ?_
             rotate_left
             ·intro w'
              go_simp
              with_reducible rfl
             rotate_left
             ·simp only [Act.put, List.setIfInBounds_toArray, List.set_cons_zero, List.set_cons_succ, i64_w, i32_w]
              rfl
             refine take_ (i := 0) (N := some 31) (v := ?_) (a' := ?_) #[true, true, true, true, false, true, false, false, true, false, false] rfl rfl (take_ofW HT_.out HW_.out (by kernel_rfl)) (fun _ _ _ h => h) (Or.inl ⟨by rfl, ?_⟩) hHeld ?_ ?_
             rotate_left
             ·rintro w' ⟨s0, s1, s2, s3⟩
              go_simp
              with_reducible rfl
             rotate_left
             ·simp only [Act.put, List.setIfInBounds_toArray, List.set_cons_zero, List.set_cons_succ, i64_w, i32_w]
              rfl
             refine take_ (i := 4) (N := some 35) (v := ?_) (a' := ?_) #[true, true, true, true, true, true, false, false, true, false, false] rfl rfl (take_ofW HT_.out HW_.out (by kernel_rfl)) (fun _ _ _ h => h) (Or.inl ⟨by rfl, ?_⟩) hHeld ?_ ?_
             rotate_left
             ·rintro w' ⟨s0, s1, s2, s3⟩
              go_simp
              with_reducible rfl
             rotate_left
             ·simp only [Act.put, List.setIfInBounds_toArray, List.set_cons_zero, List.set_cons_succ, i64_w, i32_w]
              rfl
             refine pure_ (i := 6) (N := some 37) (v := ?_) (a' := ?_) #[true, true, true, true, true, true, true, false, true, false, false] rfl rfl (any_of HT_.out (by kernel_rfl)) (fun _ _ _ h => h) (Or.inl ⟨by rfl, ?_⟩) ?_ ?_
             rotate_left
             ·intro w'
              go_simp
              with_reducible rfl
             rotate_left
             ·simp only [Act.put, List.setIfInBounds_toArray, List.set_cons_zero, List.set_cons_succ, i64_w, i32_w]
              rfl
             refine take_ (i := 7) (N := some 38) (v := ?_) (a' := ?_) #[true, true, true, true, true, true, true, true, true, false, false] rfl rfl (take_ofW HT_.out HW_.out (by kernel_rfl)) (fun _ _ _ h => h) (Or.inl ⟨by rfl, ?_⟩) hHeld ?_ ?_
             rotate_left
             ·rintro w' ⟨s0, s1, s2, s3⟩
              go_simp
              with_reducible rfl
             rotate_left
             ·simp only [Act.put, List.setIfInBounds_toArray, List.set_cons_zero, List.set_cons_succ, i64_w, i32_w]
              rfl
             refine one_ (i := 9) (N := some 40) #[true, true, true, true, true, true, true, true, true, true, false] rfl rfl (one_of HT_.out (by kernel_rfl)) (by decide) (fun K hK => ?_)
             refine goes_ Try.func37 (by kernel_rfl) rfl #[.agg #[.int .i64 a0_0, .slice A0_1 l0_1.length c0_1], .int .i64 (rd (rd_L5 l1 x6_1) x7_2), .int .i64 x6_1] (by rfl) rfl rfl (by (try simp only [List.map_toArray, List.map_cons, List.map_nil]); first | done | rfl | (simp only [List.length_drop, List.length_take]; rfl)) ?_
             with_reducible refine (tangramref11_leaves.calls a0_0 _ _ l0_1 (rd (rd_L5 l1 x6_1) x7_2) x6_1 false _ ?side1 ?side2 A16.out).mono ?_
             (case side1 => repeat (first | exact (Kd.C_below HR0_1.out HB.out) | (with_reducible refine Kd.C_alloc ?_ _) | (with_reducible refine Kd.C_drewN ?_ _) | (with_reducible refine Kd.C_drew ?_)))
             (case side2 => exact HC0_1.out)
             rintro e w27 ⟨rfl, hb⟩
             refine ⟨_, rfl, ?_⟩
             have n0_ := Aside0.mk (blk_below (g := gb141) (o := .cells #[.int .i64 a0_0, .slice A0_1 l0_1.length c0_1] 24 (0, 0)) (by (with_reducible repeat (first | refine blk_drewN ?_ _ | refine blk_drew ?_ | refine blk_alloc ?_ _)); exact BK141.out) hb)
             have n1_ := Aside0.mk (below_step (by repeat (first | (with_reducible first | exact HB.out | apply below_alloc | apply pw_below_drewN | apply below_drew1 | refine below_set ?_ GE141.out) | exact HB.out)) hb)
             clear BK141
             clear HB
             have BK141 := n0_
             have HB := n1_
             clear n0_ n1_
             (try clear hb)
             (try clear hb2)
             (try clear hk)
             (try clear hi)
             refine hK.out _ _ ⟨(blk_cell BK141.out 0).trans rfl, (blk_cell BK141.out 1).trans rfl, ((HB.out.cell (World.block_lt_of_cell? w _ hw146_0)).trans hw146_0), ((HB.out.cell (World.block_lt_of_cell? w _ hw147_0)).trans hw147_0)⟩ (fun hHeld => ?_)
             clear hK K
             refine norm_ (a' := ?_) ?_ ?_
             rotate_left
             ·show Act.put _ (some 40) _ = _
              simp only [Act.put, List.setIfInBounds_toArray, List.set_cons_zero, List.set_cons_succ, i64_w, i32_w]
              rfl
             refine pure_ (i := 10) (N := some 41) (v := ?_) (a' := ?_) #[true, true, true, true, true, true, true, true, true, true, true] rfl rfl (any_of HT_.out (by kernel_rfl)) (fun _ _ _ h => h) (Or.inl ⟨by rfl, ?_⟩) ?_ ?_
             rotate_left
             ·intro w'
              go_simp
              with_reducible rfl
             rotate_left
             ·simp only [Act.put, List.setIfInBounds_toArray, List.set_cons_zero, List.set_cons_succ, i64_w, i32_w]
              rfl
             refine done_ (done_of HT_.out (by kernel_rfl)) ?_
             try go_wp2
             go_ret2
             exact ⟨by first | rfl | (simp [errW_none, errW_some] <;> rfl) | (simp [*, errW_none, errW_some] <;> rfl), by repeat (first | (with_reducible first | exact HB.out | apply below_alloc | apply pw_below_drewN | apply below_drew1 | refine below_set ?_ GE141.out) | exact HB.out)⟩
           ·rw [if_neg c15] at H
            exact absurd H (by simp)
          ·rw [if_neg c14] at H
           have c14b0 : decide (x7_2 < ((rd_L5 l1 x6_1).length : Int)) = false := decide_eq_false c14
           clear c14
           replace H := Option.bind_eq_some_iff.mp H
           obtain ⟨t145, A280, H⟩ := H
           replace H : (if ((rd_L5 l1 x6_1).length : Int) < t145 then (some (x6_1, 113)) else (tangramref11_Check.l0 k2 l1 (wrap64 (x6_1 + 1)) a0_0 l0_1)) = some (r1, r2) := H
           have A28 := Aside0.mk A280
           clear A280
           by_cases c29 : ((rd_L5 l1 x6_1).length : Int) < t145
           ·rw [if_pos c29] at H
            have c29b0 : decide (((rd_L5 l1 x6_1).length : Int) < t145) = true := decide_eq_true c29
            clear c29
            simp only [Option.some.injEq, Prod.mk.injEq] at H
            obtain ⟨rfl, rfl⟩ := H
            have p143 : 0 ≤ (x6_1 : Int) := of_decide_eq_true (by first | (with_reducible assumption) | assumption)
            have q143 : x6_1 < (l1.length : Int) := of_decide_eq_true (by first | (with_reducible assumption) | assumption)
            obtain ⟨ad143, A143_0, c143_0, e143, hx143_0, hl143_0, hi143_0⟩ := at_L5 HR1.out x6_1 p143 q143
            cases e143
            replace hx143_0 := (HB.out.cell (World.block_lt_of_cell? w _ hx143_0)).trans hx143_0
            have HR143_0 := Aside0.mk hi143_0
            have HC143_0 := Aside0.mk hl143_0
            clear hi143_0 hl143_0
            replace p143 := eq_true p143
            replace q143 := eq_true q143
            try go_wp2
            have n0_ := Aside0.mk (blk_drew BK141.out)
            have n1_ := Aside0.mk (below_drew1 HB.out)
            clear BK141
            clear HB
            have BK141 := n0_
            have HB := n1_
            clear n0_ n1_
            have p144 : 0 ≤ (x6_1 : Int) := of_decide_eq_true (by first | (with_reducible assumption) | assumption)
            have q144 : x6_1 < (l1.length : Int) := of_decide_eq_true (by first | (with_reducible assumption) | assumption)
            obtain ⟨ad144, A144_0, c144_0, e144, hx144_0, hl144_0, hi144_0⟩ := at_L5 HR1.out x6_1 p144 q144
            have hw144_0 := hx144_0
            obtain rfl : ad143 = ad144 := (by injection e144)
            replace hx144_0 := (HB.out.cell (World.block_lt_of_cell? w _ hx144_0)).trans hx144_0
            have HR144_0 := Aside0.mk hi144_0
            have HC144_0 := Aside0.mk hl144_0
            clear hi144_0 hl144_0
            replace p144 := eq_true p144
            replace q144 := eq_true q144
            refine start_ (n := 9) (S := fun w' => w'.cell? ⟨gb141, 0, none⟩ = some (.int .i64 a0_0) ∧ w'.cell? ⟨gb141, 1, none⟩ = some (.slice A0_1 l0_1.length c0_1) ∧ w'.cell? (ad143.add (x6_1).toNat) = some (.slice A144_0 (rd_L5 l1 x6_1).length c144_0)) (ds := []) #[false, false, false, false, false, false, false, false, false] (by kernel_rfl) rfl rfl ⟨(blk_cell BK141.out 0).trans rfl, (blk_cell BK141.out 1).trans rfl, ((HB.out.cell (World.block_lt_of_cell? w _ hw144_0)).trans hw144_0)⟩ (fun hHeld => ?_); refine with_tabW tangramref11_Check.tab15 tangramref11_Check.bits15 (fun HT_ HW_ => ?_)
            generalize wr.drew = w30 at BK141 HB HR144_0 hx144_0 hHeld ⊢
            refine pure_ (i := 0) (N := some 57) (v := ?_) (a' := ?_) #[true, false, false, false, false, false, false, false, false] rfl rfl (any_of HT_.out (by kernel_rfl)) (fun _ _ _ h => h) (Or.inl ⟨by rfl, ?_⟩) ?_ ?_
            rotate_left
            ·intro w'
             go_simp
             with_reducible rfl
            rotate_left
            ·simp only [Act.put, List.setIfInBounds_toArray, List.set_cons_zero, List.set_cons_succ, i64_w, i32_w]
             rfl
            refine pure_ (i := 1) (N := some 58) (v := ?_) (a' := ?_) #[true, true, false, false, false, false, false, false, false] rfl rfl (any_of HT_.out (by kernel_rfl)) (fun _ _ _ h => h) (Or.inl ⟨by rfl, ?_⟩) ?_ ?_
            rotate_left
            ·intro w'
             go_simp
             with_reducible rfl
            rotate_left
            ·simp only [Act.put, List.setIfInBounds_toArray, List.set_cons_zero, List.set_cons_succ, i64_w, i32_w]
             rfl
            refine pure_ (i := 2) (N := some 59) (v := ?_) (a' := ?_) #[true, true, true, false, false, false, false, false, false] rfl rfl (any_of HT_.out (by kernel_rfl)) (fun _ _ _ h => h) (Or.inl ⟨by rfl, ?_⟩) ?_ ?_
            rotate_left
            ·intro w'
             go_simp
             with_reducible rfl
            rotate_left
            ·simp only [Act.put, List.setIfInBounds_toArray, List.set_cons_zero, List.set_cons_succ, i64_w, i32_w]
             rfl
            refine pure_ (i := 6) (N := some 63) (v := ?_) (a' := ?_) #[true, true, true, false, false, false, true, false, false] rfl rfl (any_of HT_.out (by kernel_rfl)) (fun _ _ _ h => h) (Or.inl ⟨by rfl, ?_⟩) ?_ ?_
            rotate_left
            ·intro w'
             go_simp
             with_reducible rfl
            rotate_left
            ·simp only [Act.put, List.setIfInBounds_toArray, List.set_cons_zero, List.set_cons_succ, i64_w, i32_w]
             rfl
            refine take_ (i := 3) (N := some 60) (v := ?_) (a' := ?_) #[true, true, true, true, false, false, true, false, false] rfl rfl (take_ofW HT_.out HW_.out (by kernel_rfl)) (fun _ _ _ h => h) (Or.inl ⟨by rfl, ?_⟩) hHeld ?_ ?_
            rotate_left
            ·rintro w' ⟨s0, s1, s2⟩
             go_simp
             with_reducible rfl
            rotate_left
            ·simp only [Act.put, List.setIfInBounds_toArray, List.set_cons_zero, List.set_cons_succ, i64_w, i32_w]
             rfl
            refine pure_ (i := 4) (N := some 61) (v := ?_) (a' := ?_) #[true, true, true, true, true, false, true, false, false] rfl rfl (any_of HT_.out (by kernel_rfl)) (fun _ _ _ h => h) (Or.inl ⟨by rfl, ?_⟩) ?_ ?_
            rotate_left
            ·intro w'
             go_simp
             with_reducible rfl
            rotate_left
            ·simp only [Act.put, List.setIfInBounds_toArray, List.set_cons_zero, List.set_cons_succ, i64_w, i32_w]
             rfl
            refine take_ (i := 5) (N := some 62) (v := ?_) (a' := ?_) #[true, true, true, true, true, true, true, false, false] rfl rfl (take_ofW HT_.out HW_.out (by kernel_rfl)) (fun _ _ _ h => h) (Or.inl ⟨by rfl, ?_⟩) hHeld ?_ ?_
            rotate_left
            ·rintro w' ⟨s0, s1, s2⟩
             go_simp
             with_reducible rfl
            rotate_left
            ·simp only [Act.put, List.setIfInBounds_toArray, List.set_cons_zero, List.set_cons_succ, i64_w, i32_w]
             rfl
            refine one_ (i := 7) (N := some 64) #[true, true, true, true, true, true, true, true, false] rfl rfl (one_of HT_.out (by kernel_rfl)) (by decide) (fun K hK => ?_)
            refine goes_ Try.func39 (by kernel_rfl) rfl #[.agg #[.int .i64 a0_0, .slice A0_1 l0_1.length c0_1], .int .i64 x6_1] (by rfl) rfl rfl (by (try simp only [List.map_toArray, List.map_cons, List.map_nil]); first | done | rfl | (simp only [List.length_drop, List.length_take]; rfl)) ?_
            with_reducible refine (tangramref11_degree.calls k2 a0_0 _ _ l0_1 x6_1 t145 _ ?side1 ?side2 A28.out).mono ?_
            (case side1 => repeat (first | exact (Kd.C_below HR0_1.out HB.out) | (with_reducible refine Kd.C_alloc ?_ _) | (with_reducible refine Kd.C_drewN ?_ _) | (with_reducible refine Kd.C_drew ?_)))
            (case side2 => exact HC0_1.out)
            rintro e w31 ⟨rfl, hb⟩
            refine ⟨_, rfl, ?_⟩
            have n0_ := Aside0.mk (blk_below (g := gb141) (o := .cells #[.int .i64 a0_0, .slice A0_1 l0_1.length c0_1] 24 (0, 0)) (by (with_reducible repeat (first | refine blk_drewN ?_ _ | refine blk_drew ?_ | refine blk_alloc ?_ _)); exact BK141.out) hb)
            have n1_ := Aside0.mk (below_step (by repeat (first | (with_reducible first | exact HB.out | apply below_alloc | apply pw_below_drewN | apply below_drew1 | refine below_set ?_ GE141.out) | exact HB.out)) hb)
            clear BK141
            clear HB
            have BK141 := n0_
            have HB := n1_
            clear n0_ n1_
            (try clear hb)
            (try clear hb2)
            (try clear hk)
            (try clear hi)
            refine hK.out _ _ ⟨(blk_cell BK141.out 0).trans rfl, (blk_cell BK141.out 1).trans rfl, ((HB.out.cell (World.block_lt_of_cell? w _ hw144_0)).trans hw144_0)⟩ (fun hHeld => ?_)
            clear hK K
            refine norm_ (a' := ?_) ?_ ?_
            rotate_left
            ·show Act.put _ (some 64) _ = _
             simp only [Act.put, List.setIfInBounds_toArray, List.set_cons_zero, List.set_cons_succ, i64_w, i32_w]
             rfl
            refine pure_ (i := 8) (N := some 65) (v := ?_) (a' := ?_) #[true, true, true, true, true, true, true, true, true] rfl rfl (any_of HT_.out (by kernel_rfl)) (fun _ _ _ h => h) (Or.inl ⟨by rfl, ?_⟩) ?_ ?_
            rotate_left
            ·intro w'
             go_simp
             with_reducible rfl
            rotate_left
            ·simp only [Act.put, List.setIfInBounds_toArray, List.set_cons_zero, List.set_cons_succ, i64_w, i32_w]
             rfl
            refine done_ (done_of HT_.out (by kernel_rfl)) ?_
            try go_wp2
            go_ret2
            exact ⟨by first | rfl | (simp [errW_none, errW_some] <;> rfl) | (simp [*, errW_none, errW_some] <;> rfl), by repeat (first | (with_reducible first | exact HB.out | apply below_alloc | apply pw_below_drewN | apply below_drew1 | refine below_set ?_ GE141.out) | exact HB.out)⟩
           ·rw [if_neg c29] at H
            have c29b0 : decide (((rd_L5 l1 x6_1).length : Int) < t145) = false := decide_eq_false c29
            clear c29
            have H' := Aside0.mk H
            clear H
            have p143 : 0 ≤ (x6_1 : Int) := of_decide_eq_true (by first | (with_reducible assumption) | assumption)
            have q143 : x6_1 < (l1.length : Int) := of_decide_eq_true (by first | (with_reducible assumption) | assumption)
            obtain ⟨ad143, A143_0, c143_0, e143, hx143_0, hl143_0, hi143_0⟩ := at_L5 HR1.out x6_1 p143 q143
            cases e143
            replace hx143_0 := (HB.out.cell (World.block_lt_of_cell? w _ hx143_0)).trans hx143_0
            have HR143_0 := Aside0.mk hi143_0
            have HC143_0 := Aside0.mk hl143_0
            clear hi143_0 hl143_0
            replace p143 := eq_true p143
            replace q143 := eq_true q143
            try go_wp2
            have n0_ := Aside0.mk (blk_drew BK141.out)
            have n1_ := Aside0.mk (below_drew1 HB.out)
            clear BK141
            clear HB
            have BK141 := n0_
            have HB := n1_
            clear n0_ n1_
            have p144 : 0 ≤ (x6_1 : Int) := of_decide_eq_true (by first | (with_reducible assumption) | assumption)
            have q144 : x6_1 < (l1.length : Int) := of_decide_eq_true (by first | (with_reducible assumption) | assumption)
            obtain ⟨ad144, A144_0, c144_0, e144, hx144_0, hl144_0, hi144_0⟩ := at_L5 HR1.out x6_1 p144 q144
            have hw144_0 := hx144_0
            obtain rfl : ad143 = ad144 := (by injection e144)
            replace hx144_0 := (HB.out.cell (World.block_lt_of_cell? w _ hx144_0)).trans hx144_0
            have HR144_0 := Aside0.mk hi144_0
            have HC144_0 := Aside0.mk hl144_0
            clear hi144_0 hl144_0
            replace p144 := eq_true p144
            replace q144 := eq_true q144
            refine start_ (n := 9) (S := fun w' => w'.cell? ⟨gb141, 0, none⟩ = some (.int .i64 a0_0) ∧ w'.cell? ⟨gb141, 1, none⟩ = some (.slice A0_1 l0_1.length c0_1) ∧ w'.cell? (ad143.add (x6_1).toNat) = some (.slice A144_0 (rd_L5 l1 x6_1).length c144_0)) (ds := []) #[false, false, false, false, false, false, false, false, false] (by kernel_rfl) rfl rfl ⟨(blk_cell BK141.out 0).trans rfl, (blk_cell BK141.out 1).trans rfl, ((HB.out.cell (World.block_lt_of_cell? w _ hw144_0)).trans hw144_0)⟩ (fun hHeld => ?_); refine with_tabW tangramref11_Check.tab15 tangramref11_Check.bits15 (fun HT_ HW_ => ?_)
            generalize wr.drew = w32 at BK141 HB HR144_0 hx144_0 hHeld ⊢
            refine pure_ (i := 0) (N := some 57) (v := ?_) (a' := ?_) #[true, false, false, false, false, false, false, false, false] rfl rfl (any_of HT_.out (by kernel_rfl)) (fun _ _ _ h => h) (Or.inl ⟨by rfl, ?_⟩) ?_ ?_
            rotate_left
            ·intro w'
             go_simp
             with_reducible rfl
            rotate_left
            ·simp only [Act.put, List.setIfInBounds_toArray, List.set_cons_zero, List.set_cons_succ, i64_w, i32_w]
             rfl
            refine pure_ (i := 1) (N := some 58) (v := ?_) (a' := ?_) #[true, true, false, false, false, false, false, false, false] rfl rfl (any_of HT_.out (by kernel_rfl)) (fun _ _ _ h => h) (Or.inl ⟨by rfl, ?_⟩) ?_ ?_
            rotate_left
            ·intro w'
             go_simp
             with_reducible rfl
            rotate_left
            ·simp only [Act.put, List.setIfInBounds_toArray, List.set_cons_zero, List.set_cons_succ, i64_w, i32_w]
             rfl
            refine pure_ (i := 2) (N := some 59) (v := ?_) (a' := ?_) #[true, true, true, false, false, false, false, false, false] rfl rfl (any_of HT_.out (by kernel_rfl)) (fun _ _ _ h => h) (Or.inl ⟨by rfl, ?_⟩) ?_ ?_
            rotate_left
            ·intro w'
             go_simp
             with_reducible rfl
            rotate_left
            ·simp only [Act.put, List.setIfInBounds_toArray, List.set_cons_zero, List.set_cons_succ, i64_w, i32_w]
             rfl
            refine pure_ (i := 6) (N := some 63) (v := ?_) (a' := ?_) #[true, true, true, false, false, false, true, false, false] rfl rfl (any_of HT_.out (by kernel_rfl)) (fun _ _ _ h => h) (Or.inl ⟨by rfl, ?_⟩) ?_ ?_
            rotate_left
            ·intro w'
             go_simp
             with_reducible rfl
            rotate_left
            ·simp only [Act.put, List.setIfInBounds_toArray, List.set_cons_zero, List.set_cons_succ, i64_w, i32_w]
             rfl
            refine take_ (i := 3) (N := some 60) (v := ?_) (a' := ?_) #[true, true, true, true, false, false, true, false, false] rfl rfl (take_ofW HT_.out HW_.out (by kernel_rfl)) (fun _ _ _ h => h) (Or.inl ⟨by rfl, ?_⟩) hHeld ?_ ?_
            rotate_left
            ·rintro w' ⟨s0, s1, s2⟩
             go_simp
             with_reducible rfl
            rotate_left
            ·simp only [Act.put, List.setIfInBounds_toArray, List.set_cons_zero, List.set_cons_succ, i64_w, i32_w]
             rfl
            refine pure_ (i := 4) (N := some 61) (v := ?_) (a' := ?_) #[true, true, true, true, true, false, true, false, false] rfl rfl (any_of HT_.out (by kernel_rfl)) (fun _ _ _ h => h) (Or.inl ⟨by rfl, ?_⟩) ?_ ?_
            rotate_left
            ·intro w'
             go_simp
             with_reducible rfl
            rotate_left
            ·simp only [Act.put, List.setIfInBounds_toArray, List.set_cons_zero, List.set_cons_succ, i64_w, i32_w]
             rfl
            refine take_ (i := 5) (N := some 62) (v := ?_) (a' := ?_) #[true, true, true, true, true, true, true, false, false] rfl rfl (take_ofW HT_.out HW_.out (by kernel_rfl)) (fun _ _ _ h => h) (Or.inl ⟨by rfl, ?_⟩) hHeld ?_ ?_
            rotate_left
            ·rintro w' ⟨s0, s1, s2⟩
             go_simp
             with_reducible rfl
            rotate_left
            ·simp only [Act.put, List.setIfInBounds_toArray, List.set_cons_zero, List.set_cons_succ, i64_w, i32_w]
             rfl
            refine one_ (i := 7) (N := some 64) #[true, true, true, true, true, true, true, true, false] rfl rfl (one_of HT_.out (by kernel_rfl)) (by decide) (fun K hK => ?_)
            refine goes_ Try.func39 (by kernel_rfl) rfl #[.agg #[.int .i64 a0_0, .slice A0_1 l0_1.length c0_1], .int .i64 x6_1] (by rfl) rfl rfl (by (try simp only [List.map_toArray, List.map_cons, List.map_nil]); first | done | rfl | (simp only [List.length_drop, List.length_take]; rfl)) ?_
            with_reducible refine (tangramref11_degree.calls k2 a0_0 _ _ l0_1 x6_1 t145 _ ?side1 ?side2 A28.out).mono ?_
            (case side1 => repeat (first | exact (Kd.C_below HR0_1.out HB.out) | (with_reducible refine Kd.C_alloc ?_ _) | (with_reducible refine Kd.C_drewN ?_ _) | (with_reducible refine Kd.C_drew ?_)))
            (case side2 => exact HC0_1.out)
            rintro e w33 ⟨rfl, hb⟩
            refine ⟨_, rfl, ?_⟩
            have n0_ := Aside0.mk (blk_below (g := gb141) (o := .cells #[.int .i64 a0_0, .slice A0_1 l0_1.length c0_1] 24 (0, 0)) (by (with_reducible repeat (first | refine blk_drewN ?_ _ | refine blk_drew ?_ | refine blk_alloc ?_ _)); exact BK141.out) hb)
            have n1_ := Aside0.mk (below_step (by repeat (first | (with_reducible first | exact HB.out | apply below_alloc | apply pw_below_drewN | apply below_drew1 | refine below_set ?_ GE141.out) | exact HB.out)) hb)
            clear BK141
            clear HB
            have BK141 := n0_
            have HB := n1_
            clear n0_ n1_
            (try clear hb)
            (try clear hb2)
            (try clear hk)
            (try clear hi)
            refine hK.out _ _ ⟨(blk_cell BK141.out 0).trans rfl, (blk_cell BK141.out 1).trans rfl, ((HB.out.cell (World.block_lt_of_cell? w _ hw144_0)).trans hw144_0)⟩ (fun hHeld => ?_)
            clear hK K
            refine norm_ (a' := ?_) ?_ ?_
            rotate_left
            ·show Act.put _ (some 64) _ = _
             simp only [Act.put, List.setIfInBounds_toArray, List.set_cons_zero, List.set_cons_succ, i64_w, i32_w]
             rfl
            refine pure_ (i := 8) (N := some 65) (v := ?_) (a' := ?_) #[true, true, true, true, true, true, true, true, true] rfl rfl (any_of HT_.out (by kernel_rfl)) (fun _ _ _ h => h) (Or.inl ⟨by rfl, ?_⟩) ?_ ?_
            rotate_left
            ·intro w'
             go_simp
             with_reducible rfl
            rotate_left
            ·simp only [Act.put, List.setIfInBounds_toArray, List.set_cons_zero, List.set_cons_succ, i64_w, i32_w]
             rfl
            refine done_ (done_of HT_.out (by kernel_rfl)) ?_
            try go_wp2
            go_roundg k2
            case measure => have := HK1.out; have := HK2.out; omega
            case rel => exact ⟨(wrap64 (x6_1 + 1)), (by first | rfl | (simp; done) | (simp [*]; done)), H', ⟨by have := HK1.out; have := HK2.out; omega⟩, ⟨by (with_reducible repeat (first | refine blk_drewN ?_ _ | refine blk_drew ?_ | refine blk_alloc ?_ _)); exact BK141.out⟩, ⟨by repeat (first | (with_reducible first | exact HB.out | apply below_alloc | apply pw_below_drewN | apply below_drew1 | refine below_set ?_ GE141.out) | exact HB.out)⟩⟩
         ·rw [if_neg c13] at H
          exact absurd H (by simp)
        ·rw [if_neg c12] at H
         exact absurd H (by simp)
     ·rw [if_neg c10] at H
      have c10b0 : decide (x6_1 < a0_0) = false := decide_eq_false c10
      clear c10
      simp only [Option.some.injEq, Prod.mk.injEq] at H
      obtain ⟨rfl, rfl⟩ := H
      have hcz34_0 : wr.cell? ⟨gb141, 0, none⟩ = some (.int .i64 a0_0) := (blk_cell BK141.out 0).trans rfl
      have hcz34_1 : wr.cell? ⟨gb141, 1, none⟩ = some (.slice A0_1 l0_1.length c0_1) := (blk_cell BK141.out 1).trans rfl
      have hfz34_0 := blk_frozen BK141.out 0
      have hfz34_1 := blk_frozen BK141.out 1
      go_wp2
      go_ret2
      exact ⟨by first | rfl | (simp [errW_none, errW_some] <;> rfl) | (simp [*, errW_none, errW_some] <;> rfl), by repeat (first | (with_reducible first | exact HB.out | apply below_alloc | apply pw_below_drewN | apply below_drew1 | refine below_set ?_ GE141.out) | exact HB.out)⟩
  ·rw [if_neg c5] at H
   have c5b0 : ((l1.length : Int) == a0_0) = false := beq_eq_false_iff_ne.mpr c5
   have c5b1 : ((l1.length : Int) != a0_0) = true := bne_iff_ne.mpr c5
   simp only [Option.some.injEq, Prod.mk.injEq] at H
   obtain ⟨rfl, rfl⟩ := H
   go_enter Try.func16, Try.ntmps16
   go_wp2_with (first | ((with_reducible refine gate_dst (N := 2) rfl ?_); refine box_event ?hg (N := 2) ?hd (cs := #[.int .i64 a0_0, .slice A0_1 l0_1.length c0_1]) (t := 24) ?hr ?_; (case hd => rfl); (case hg => rfl); (case hr => first | (go_simp; done) | (go_simp; rfl)); intro gb141 hg w35 hbox hb; have n0_ := Aside0.mk (below_step (by repeat (first | (with_reducible first | exact HB.out | apply below_alloc | apply pw_below_drewN | apply below_drew1) | exact HB.out)) hb); have n1_ := Aside0.mk (hbox); have n2_ := Aside0.mk ((by rw [hg]; exact (below_size (by repeat (first | (with_reducible first | exact HB.out | apply below_alloc | apply pw_below_drewN | apply below_drew1) | exact HB.out))) : w.heap.size ≤ gb141)); have n3_ := Aside0.mk ((by rw [hg]; exact (below_size (by repeat (first | (with_reducible first | exact HB.out | apply below_alloc | apply pw_below_drewN | apply below_drew1) | exact HB.out))) : w.heap.size ≤ gb141)); clear HB; have HB := n0_; have BK141 := n1_; have GW141 := n2_; have GE141 := n3_; clear n0_ n1_ n2_ n3_; clear hb hbox hg; have hcz36_0 : w35.cell? ⟨gb141, 0, none⟩ = some (.int .i64 a0_0) := (blk_cell BK141.out 0).trans rfl; have hcz36_1 : w35.cell? ⟨gb141, 1, none⟩ = some (.slice A0_1 l0_1.length c0_1) := (blk_cell BK141.out 1).trans rfl; have hfz36_0 := blk_frozen BK141.out 0; have hfz36_1 := blk_frozen BK141.out 1) | ((with_reducible refine gate_callee (f := 13) rfl ?_); refine goesL_ (some 9) rfl rfl Try.func13 (by kernel_rfl) rfl #[.agg #[.int .i64 a0_0, .slice A0_1 l0_1.length c0_1]] rfl (by (try simp only [List.map_toArray, List.map_cons, List.map_nil]); first | done | rfl | (simp only [List.length_drop, List.length_take]; rfl)) ?_; (with_reducible refine (tangramref03_Valid.calls k a0_0 _ _ l0_1 true _ ?side1 ?side2 A3.out).mono ?_); (case side1 => repeat (first | exact (Kd.C_below HR0_1.out HB.out) | (with_reducible refine Kd.C_alloc ?_ _) | (with_reducible refine Kd.C_drewN ?_ _) | (with_reducible refine Kd.C_drew ?_))); (case side2 => exact HC0_1.out); rintro e w37 ⟨rfl, hb⟩; refine ⟨_, rfl, ?_⟩; have n0_ := Aside0.mk (blk_below (g := gb141) (o := .cells #[.int .i64 a0_0, .slice A0_1 l0_1.length c0_1] 24 (0, 0)) (by (with_reducible repeat (first | refine blk_drewN ?_ _ | refine blk_drew ?_ | refine blk_alloc ?_ _)); exact BK141.out) hb); have n1_ := Aside0.mk (below_step (by repeat (first | (with_reducible first | exact HB.out | apply below_alloc | apply pw_below_drewN | apply below_drew1 | refine below_set ?_ GE141.out) | exact HB.out)) hb); clear BK141; clear HB; have BK141 := n0_; have HB := n1_; clear n0_ n1_; (try clear hb); (try clear hb2); (try clear hk); (try clear hi); have hcz38_0 : w37.cell? ⟨gb141, 0, none⟩ = some (.int .i64 a0_0) := (blk_cell BK141.out 0).trans rfl; have hcz38_1 : w37.cell? ⟨gb141, 1, none⟩ = some (.slice A0_1 l0_1.length c0_1) := (blk_cell BK141.out 1).trans rfl; have hfz38_0 := blk_frozen BK141.out 0; have hfz38_1 := blk_frozen BK141.out 1))
   go_ret2
   exact ⟨by first | rfl | (simp [errW_none, errW_some] <;> rfl) | (simp [*, errW_none, errW_some] <;> rfl), by repeat (first | (with_reducible first | exact HB.out | apply below_alloc | apply pw_below_drewN | apply below_drew1 | refine below_set ?_ GE141.out) | exact HB.out)⟩
 ·replace c4 := Bool.eq_false_iff.mpr c4
  subst c4
  have H1 : (some (0, 1)) = some (r1, r2) := by rw [if_neg (show ¬ (false = true) by decide)] at H; exact H
  clear H
  have H := H1
  clear H1
  simp only [Option.some.injEq, Prod.mk.injEq] at H
  obtain ⟨rfl, rfl⟩ := H
  go_enter Try.func16, Try.ntmps16
  go_wp2_with (first | ((with_reducible refine gate_dst (N := 2) rfl ?_); refine box_event ?hg (N := 2) ?hd (cs := #[.int .i64 a0_0, .slice A0_1 l0_1.length c0_1]) (t := 24) ?hr ?_; (case hd => rfl); (case hg => rfl); (case hr => first | (go_simp; done) | (go_simp; rfl)); intro gb141 hg w39 hbox hb; have n0_ := Aside0.mk (below_step (by repeat (first | (with_reducible first | exact HB.out | apply below_alloc | apply pw_below_drewN | apply below_drew1) | exact HB.out)) hb); have n1_ := Aside0.mk (hbox); have n2_ := Aside0.mk ((by rw [hg]; exact (below_size (by repeat (first | (with_reducible first | exact HB.out | apply below_alloc | apply pw_below_drewN | apply below_drew1) | exact HB.out))) : w.heap.size ≤ gb141)); have n3_ := Aside0.mk ((by rw [hg]; exact (below_size (by repeat (first | (with_reducible first | exact HB.out | apply below_alloc | apply pw_below_drewN | apply below_drew1) | exact HB.out))) : w.heap.size ≤ gb141)); clear HB; have HB := n0_; have BK141 := n1_; have GW141 := n2_; have GE141 := n3_; clear n0_ n1_ n2_ n3_; clear hb hbox hg; have hcz40_0 : w39.cell? ⟨gb141, 0, none⟩ = some (.int .i64 a0_0) := (blk_cell BK141.out 0).trans rfl; have hcz40_1 : w39.cell? ⟨gb141, 1, none⟩ = some (.slice A0_1 l0_1.length c0_1) := (blk_cell BK141.out 1).trans rfl; have hfz40_0 := blk_frozen BK141.out 0; have hfz40_1 := blk_frozen BK141.out 1) | ((with_reducible refine gate_callee (f := 13) rfl ?_); refine goesL_ (some 9) rfl rfl Try.func13 (by kernel_rfl) rfl #[.agg #[.int .i64 a0_0, .slice A0_1 l0_1.length c0_1]] rfl (by (try simp only [List.map_toArray, List.map_cons, List.map_nil]); first | done | rfl | (simp only [List.length_drop, List.length_take]; rfl)) ?_; (with_reducible refine (tangramref03_Valid.calls k a0_0 _ _ l0_1 false _ ?side1 ?side2 A3.out).mono ?_); (case side1 => repeat (first | exact (Kd.C_below HR0_1.out HB.out) | (with_reducible refine Kd.C_alloc ?_ _) | (with_reducible refine Kd.C_drewN ?_ _) | (with_reducible refine Kd.C_drew ?_))); (case side2 => exact HC0_1.out); rintro e w41 ⟨rfl, hb⟩; refine ⟨_, rfl, ?_⟩; have n0_ := Aside0.mk (blk_below (g := gb141) (o := .cells #[.int .i64 a0_0, .slice A0_1 l0_1.length c0_1] 24 (0, 0)) (by (with_reducible repeat (first | refine blk_drewN ?_ _ | refine blk_drew ?_ | refine blk_alloc ?_ _)); exact BK141.out) hb); have n1_ := Aside0.mk (below_step (by repeat (first | (with_reducible first | exact HB.out | apply below_alloc | apply pw_below_drewN | apply below_drew1 | refine below_set ?_ GE141.out) | exact HB.out)) hb); clear BK141; clear HB; have BK141 := n0_; have HB := n1_; clear n0_ n1_; (try clear hb); (try clear hb2); (try clear hk); (try clear hi)))
  go_ret2
  exact ⟨by first | rfl | (simp [errW_none, errW_some] <;> rfl) | (simp [*, errW_none, errW_some] <;> rfl), by repeat (first | (with_reducible first | exact HB.out | apply below_alloc | apply pw_below_drewN | apply below_drew1 | refine below_set ?_ GE141.out) | exact HB.out)⟩
end Go.Proofs.Ytkkhhbegeboonaa.GAll
namespace Go.Proofs.Ytkkhhbegeboonaa.GAll
open Go.RowKit Go.Proofs.YtkkhhbegeboonaaW.PrintWords Go.Proofs.YtkkhhbegeboonaaW.PrintLast Go.Proofs.YtkkhhbegeboonaaW.PrintMore
attribute [local go_sem] max2_int min2_int max_two min_two max_three min_three max_four min_four   -- for this text's walks alone
set_option linter.unusedVariables false
set_option linter.unusedSimpArgs false
def tangramref11_To.f (a0_0 : Int) (l0_1 : List (S59)) (a1 : Int) : Option (Int) := (tangramref11_From.f a0_0 l0_1 (Go.bits .xor .i64 a1 1)).bind fun t154 => (some t154)
set_option maxHeartbeats 8000000 in
set_option maxRecDepth 100000 in
theorem tangramref11_To.calls (a0_0 : Int) (A0_1 : Option Addr) (c0_1 : Nat) (l0_1 : List (S59)) (a1 : Int) (r : Int) (w : World) (hr0_1 : Kd.C k59 w A0_1 l0_1.length l0_1) (hc0_1 : l0_1.length ≤ c0_1) (h : tangramref11_To.f a0_0 l0_1 a1 = some r) :
  Calls Try.prog 41 #[.agg #[.int .i64 a0_0, .slice A0_1 l0_1.length c0_1], .int .i64 a1] w fun e w' => e = .returned (.int .i64 r) ∧ Below w.heap.size w w' := by
 have hu24 := Try.underlying24
 have HR0_1 := Aside0.mk hr0_1
 have HC0_1 := Aside0.mk hc0_1
 clear hr0_1 hc0_1
 have HB := Aside0.mk (Below.refl w.heap.size w)
 have H : ((tangramref11_From.f a0_0 l0_1 (Go.bits .xor .i64 a1 1)).bind fun t154 => (some t154)) = some r := h
 clear h
 replace H := Option.bind_eq_some_iff.mp H
 obtain ⟨t154, A30, H⟩ := H
 replace H : (some t154) = some r := H
 have A3 := Aside0.mk A30
 clear A30
 obtain rfl := Option.some.inj H
 go_enter Try.func41, Try.ntmps41
 go_wp2_with (first | ((with_reducible refine gate_dst (N := 2) rfl ?_); refine box_event ?hg (N := 2) ?hd (cs := #[.int .i64 a0_0, .slice A0_1 l0_1.length c0_1]) (t := 24) ?hr ?_; (case hd => rfl); (case hg => rfl); (case hr => first | (go_simp; done) | (go_simp; rfl)); intro gb153 hg w4 hbox hb; have n0_ := Aside0.mk (below_step (by repeat (first | (with_reducible first | exact HB.out | apply below_alloc | apply pw_below_drewN | apply below_drew1) | exact HB.out)) hb); have n1_ := Aside0.mk (hbox); have n2_ := Aside0.mk ((by rw [hg]; exact (below_size (by repeat (first | (with_reducible first | exact HB.out | apply below_alloc | apply pw_below_drewN | apply below_drew1) | exact HB.out))) : w.heap.size ≤ gb153)); have n3_ := Aside0.mk ((by rw [hg]; exact (below_size (by repeat (first | (with_reducible first | exact HB.out | apply below_alloc | apply pw_below_drewN | apply below_drew1) | exact HB.out))) : w.heap.size ≤ gb153)); clear HB; have HB := n0_; have BK153 := n1_; have GW153 := n2_; have GE153 := n3_; clear n0_ n1_ n2_ n3_; clear hb hbox hg; have hcz5_0 : w4.cell? ⟨gb153, 0, none⟩ = some (.int .i64 a0_0) := (blk_cell BK153.out 0).trans rfl; have hcz5_1 : w4.cell? ⟨gb153, 1, none⟩ = some (.slice A0_1 l0_1.length c0_1) := (blk_cell BK153.out 1).trans rfl; have hfz5_0 := blk_frozen BK153.out 0; have hfz5_1 := blk_frozen BK153.out 1) | ((with_reducible refine gate_callee (f := 14) rfl ?_); refine goesL_ (some 8) rfl rfl Try.func14 (by kernel_rfl) rfl #[.agg #[.int .i64 a0_0, .slice A0_1 l0_1.length c0_1], .int .i64 (Go.bits .xor .i64 a1 1)] rfl (by (try simp only [List.map_toArray, List.map_cons, List.map_nil]); first | done | rfl | (simp only [List.length_drop, List.length_take]; rfl)) ?_; (with_reducible refine (tangramref11_From.calls a0_0 _ _ l0_1 (Go.bits .xor .i64 a1 1) t154 _ ?side1 ?side2 A3.out).mono ?_); (case side1 => repeat (first | exact (Kd.C_below HR0_1.out HB.out) | (with_reducible refine Kd.C_alloc ?_ _) | (with_reducible refine Kd.C_drewN ?_ _) | (with_reducible refine Kd.C_drew ?_))); (case side2 => exact HC0_1.out); rintro e w6 ⟨rfl, hb⟩; refine ⟨_, rfl, ?_⟩; have n0_ := Aside0.mk (blk_below (g := gb153) (o := .cells #[.int .i64 a0_0, .slice A0_1 l0_1.length c0_1] 24 (0, 0)) (by (with_reducible repeat (first | refine blk_drewN ?_ _ | refine blk_drew ?_ | refine blk_alloc ?_ _)); exact BK153.out) hb); have n1_ := Aside0.mk (below_step (by repeat (first | (with_reducible first | exact HB.out | apply below_alloc | apply pw_below_drewN | apply below_drew1 | refine below_set ?_ GE153.out) | exact HB.out)) hb); clear BK153; clear HB; have BK153 := n0_; have HB := n1_; clear n0_ n1_; (try clear hb); (try clear hb2); (try clear hk); (try clear hi)))
 go_ret
 exact ⟨by first | rfl | (simp [errW_none, errW_some] <;> rfl) | (simp [*, errW_none, errW_some] <;> rfl), by repeat (first | (with_reducible first | exact HB.out | apply below_alloc | apply pw_below_drewN | apply below_drew1 | refine below_set ?_ GE153.out) | exact HB.out)⟩
end Go.Proofs.Ytkkhhbegeboonaa.GAll
namespace Go.Proofs.Ytkkhhbegeboonaa.GAll
open Go.RowKit Go.Proofs.YtkkhhbegeboonaaW.PrintWords Go.Proofs.YtkkhhbegeboonaaW.PrintLast Go.Proofs.YtkkhhbegeboonaaW.PrintMore
attribute [local go_sem] max2_int min2_int max_two min_two max_three min_three max_four min_four   -- for this text's walks alone
set_option linter.unusedVariables false
set_option linter.unusedSimpArgs false
mutual
def tangramref11_Around.l0 : Nat → List (List Int) → List (List Int) → Int → Int → List (S59) → Option ((List (List Int)) × Int)
 | 0, _, _, _, _, _ => none
 | k + 1, x1, x8, x9, x156000, x156001 => if x9 < (x1.length : Int) then (tangramref11_Around.l1 k x1 x8 x9 ([] : List Int) 0 x156000 x156001) else (some (x8, 0))
def tangramref11_Around.l1 : Nat → List (List Int) → List (List Int) → Int → List Int → Int → Int → List (S59) → Option ((List (List Int)) × Int)
 | 0, _, _, _, _, _, _, _ => none
 | k + 1, x1, x8, x9, x10, x11, x156000, x156001 => if 0 ≤ x9 then (if x9 < (x1.length : Int) then (if x11 < ((rd_L5 x1 x9).length : Int) then (if 0 ≤ x11 then ((tangramref11_To.f x156000 x156001 (rd (rd_L5 x1 x9) x11)).bind fun t161 => (if x10.length < 17592186044416 then (tangramref11_Around.l1 k x1 x8 x9 (x10 ++ [t161]) (wrap64 (x11 + 1)) x156000 x156001) else (none))) else (none)) else (if x8.length < 5864062014805 then (tangramref11_Around.l0 k x1 (x8 ++ [x10]) (wrap64 (x9 + 1)) x156000 x156001) else (none))) else (none)) else (none)
end
def tangramref11_Around.f (k : Nat) (a0_0 : Int) (l0_1 : List (S59)) (l1 : List (List Int)) : Option ((List (List Int)) × Int) := (tangramref11_Check.f k a0_0 l0_1 l1).bind fun bt156 => (if bt156.2 = 0 then (tangramref11_Around.l0 k l1 ([] : List (List Int)) 0 a0_0 l0_1) else (some (([] : List (List Int)), bt156.2)))
theorem tangramref11_Around.mono_l : ∀ k, (∀ y0 y1 y2 y3 y4, LeO (tangramref11_Around.l0 k y0 y1 y2 y3 y4) (tangramref11_Around.l0 (k + 1) y0 y1 y2 y3 y4)) ∧ (∀ y0 y1 y2 y3 y4 y5 y6, LeO (tangramref11_Around.l1 k y0 y1 y2 y3 y4 y5 y6) (tangramref11_Around.l1 (k + 1) y0 y1 y2 y3 y4 y5 y6))
 | 0 => ⟨fun _ _ _ _ _ r h => by simp [tangramref11_Around.l0] at h, fun _ _ _ _ _ _ _ r h => by simp [tangramref11_Around.l1] at h⟩
 | k + 1 => by
  obtain ⟨ih0, ih1⟩ := tangramref11_Around.mono_l k
  refine ⟨?_, ?_⟩
  ·intro y0 y1 y2 y3 y4
   unfold tangramref11_Around.l0
   repeat' first
   | (with_reducible exact ih0 _ _ _ _ _)
   | (with_reducible exact ih1 _ _ _ _ _ _ _)
   | (with_reducible exact tangramref11_Check.mono _ _ _ _)
   | (with_reducible exact LeO.refl _)
   | (with_reducible exact LeO.none _)
   | (with_reducible refine LeO.ite ?_ ?_)
   | (with_reducible refine LeO.bind ?_ (fun _ => ?_))
   | exact ih0 _ _ _ _ _
   | exact ih1 _ _ _ _ _ _ _
   | exact tangramref11_Check.mono _ _ _ _
   | exact LeO.none _
   | refine LeO.ite ?_ ?_
   | refine LeO.bind ?_ (fun _ => ?_)
  ·intro y0 y1 y2 y3 y4 y5 y6
   unfold tangramref11_Around.l1
   repeat' first
   | (with_reducible exact ih0 _ _ _ _ _)
   | (with_reducible exact ih1 _ _ _ _ _ _ _)
   | (with_reducible exact tangramref11_Check.mono _ _ _ _)
   | (with_reducible exact LeO.refl _)
   | (with_reducible exact LeO.none _)
   | (with_reducible refine LeO.ite ?_ ?_)
   | (with_reducible refine LeO.bind ?_ (fun _ => ?_))
   | exact ih0 _ _ _ _ _
   | exact ih1 _ _ _ _ _ _ _
   | exact tangramref11_Check.mono _ _ _ _
   | exact LeO.none _
   | refine LeO.ite ?_ ?_
   | refine LeO.bind ?_ (fun _ => ?_)
theorem tangramref11_Around.mono : ∀ a0 a1 a2 k, LeO (tangramref11_Around.f k a0 a1 a2) (tangramref11_Around.f (k + 1) a0 a1 a2) := by
 intro a0 a1 a2 k
 obtain ⟨ih0, ih1⟩ := tangramref11_Around.mono_l k
 unfold tangramref11_Around.f
 repeat' first
   | (with_reducible exact ih0 _ _ _ _ _)
   | (with_reducible exact ih1 _ _ _ _ _ _ _)
   | (with_reducible exact tangramref11_Check.mono _ _ _ _)
   | (with_reducible exact LeO.refl _)
   | (with_reducible exact LeO.none _)
   | (with_reducible refine LeO.ite ?_ ?_)
   | (with_reducible refine LeO.bind ?_ (fun _ => ?_))
   | exact ih0 _ _ _ _ _
   | exact ih1 _ _ _ _ _ _ _
   | exact tangramref11_Check.mono _ _ _ _
   | exact LeO.none _
   | refine LeO.ite ?_ ?_
   | refine LeO.bind ?_ (fun _ => ?_)
def tangramref11_Around.T12 : Bool × List (List Nat × List Nat) := (true, [([], []), ([], []), ([], []), ([], []), ([2, 3], [2, 3]), ([4], [4]), ([], []), ([5, 6], [5, 6]), ([7], [7]), ([1, 8], [1, 8]), ([9], [9]), ([0, 10, 9], [0, 10]), ([11, 11, 0, 1, 2, 3, 4, 5, 6, 7, 8, 9, 10, 11], [0, 11])])
def tangramref11_Around.B12 : List Nat := [0, 0, 0, 0, 12, 28, 0, 124, 252, 510, 1022, 2047, 4095]
theorem tangramref11_Around.tab12 : rtab .any (opsOf Try.f19 12) = tangramref11_Around.T12 := by kernel_rfl
theorem tangramref11_Around.bits12 : waitsOk tangramref11_Around.T12.2 tangramref11_Around.B12 = true := by kernel_rfl
set_option maxHeartbeats 8000000 in
set_option maxRecDepth 100000 in
theorem tangramref11_Around.calls (k : Nat) (a0_0 : Int) (A0_1 : Option Addr) (c0_1 : Nat) (l0_1 : List (S59)) (A1 : Option Addr) (c1 : Nat) (l1 : List (List Int)) (r1 : List (List Int)) (r2 : Int) (w : World) (hr0_1 : Kd.C k59 w A0_1 l0_1.length l0_1) (hc0_1 : l0_1.length ≤ c0_1) (hr1 : Kd.C (Kd.slice 3 (Kd.int .i64)) w A1 l1.length l1) (hc1 : l1.length ≤ c1) (h : tangramref11_Around.f k a0_0 l0_1 l1 = some (r1, r2)) :
  Calls Try.prog 19 #[.agg #[.int .i64 a0_0, .slice A0_1 l0_1.length c0_1], .slice A1 l1.length c1] w fun e w' => ∃ v0_ : Value, e = .returned (.tuple #[v0_, .int .i64 r2]) ∧ Kd.S (Kd.slice 3 (Kd.int .i64)) 28 w' w.heap.size (fun _ => True) v0_ r1 ∧ Below w.heap.size w w' := by
 have hu24 := Try.underlying24
 have HR0_1 := Aside0.mk hr0_1
 have HC0_1 := Aside0.mk hc0_1
 clear hr0_1 hc0_1
 have HR1 := Aside0.mk hr1
 have HC1 := Aside0.mk hc1
 clear hr1 hc1
 have HB := Aside0.mk (Below.refl w.heap.size w)
 have H : ((tangramref11_Check.f k a0_0 l0_1 l1).bind fun bt156 => (if bt156.2 = 0 then (tangramref11_Around.l0 k l1 ([] : List (List Int)) 0 a0_0 l0_1) else (some (([] : List (List Int)), bt156.2)))) = some (r1, r2) := h
 clear h
 replace H := Option.bind_eq_some_iff.mp H
 obtain ⟨⟨t156, t157⟩, A30, H⟩ := H
 replace H : (if t157 = 0 then (tangramref11_Around.l0 k l1 ([] : List (List Int)) 0 a0_0 l0_1) else (some (([] : List (List Int)), t157))) = some (r1, r2) := H
 have A3 := Aside0.mk A30
 clear A30
 by_cases c4 : t157 = 0
 ·rw [if_pos c4] at H
  have c4b0 : (t157 == 0) = true := beq_iff_eq.mpr c4
  have c4b1 : (t157 != 0) = false := bne_eq_false_iff_eq.mpr c4
  clear c4
  have H' := Aside0.mk H
  clear H
  go_enter Try.func19, Try.ntmps19
  go_wp2_with (first | ((with_reducible refine gate_dst (N := 2) rfl ?_); refine box_event ?hg (N := 2) ?hd (cs := #[.int .i64 a0_0, .slice A0_1 l0_1.length c0_1]) (t := 24) ?hr ?_; (case hd => rfl); (case hg => rfl); (case hr => first | (go_simp; done) | (go_simp; rfl)); intro gb155 hg w5 hbox hb; have n0_ := Aside0.mk (below_step (by repeat (first | (with_reducible first | exact HB.out | apply below_alloc | apply pw_below_drewN | apply below_drew1) | exact HB.out)) hb); have n1_ := Aside0.mk (hbox); have n2_ := Aside0.mk ((by rw [hg]; exact (below_size (by repeat (first | (with_reducible first | exact HB.out | apply below_alloc | apply pw_below_drewN | apply below_drew1) | exact HB.out))) : w.heap.size ≤ gb155)); have n3_ := Aside0.mk ((by rw [hg]; exact (below_size (by repeat (first | (with_reducible first | exact HB.out | apply below_alloc | apply pw_below_drewN | apply below_drew1) | exact HB.out))) : w.heap.size ≤ gb155)); clear HB; have HB := n0_; have BK155 := n1_; have GW155 := n2_; have GE155 := n3_; clear n0_ n1_ n2_ n3_; clear hb hbox hg; have hcz6_0 : w5.cell? ⟨gb155, 0, none⟩ = some (.int .i64 a0_0) := (blk_cell BK155.out 0).trans rfl; have hcz6_1 : w5.cell? ⟨gb155, 1, none⟩ = some (.slice A0_1 l0_1.length c0_1) := (blk_cell BK155.out 1).trans rfl; have hfz6_0 := blk_frozen BK155.out 0; have hfz6_1 := blk_frozen BK155.out 1) | ((with_reducible refine gate_callee (f := 16) rfl ?_); refine goesL_ (some 15) rfl rfl Try.func16 (by kernel_rfl) rfl #[.agg #[.int .i64 a0_0, .slice A0_1 l0_1.length c0_1], .slice A1 l1.length c1] rfl (by (try simp only [List.map_toArray, List.map_cons, List.map_nil]); first | done | rfl | (simp only [List.length_drop, List.length_take]; rfl)) ?_; (with_reducible refine (tangramref11_Check.calls k a0_0 _ _ l0_1 _ _ l1 t156 t157 _ ?side1 ?side2 ?side3 ?side4 A3.out).mono ?_); (case side1 => repeat (first | exact (Kd.C_below HR0_1.out HB.out) | (with_reducible refine Kd.C_alloc ?_ _) | (with_reducible refine Kd.C_drewN ?_ _) | (with_reducible refine Kd.C_drew ?_))); (case side2 => exact HC0_1.out); (case side3 => repeat (first | exact (Kd.C_below HR1.out HB.out) | (with_reducible refine Kd.C_alloc ?_ _) | (with_reducible refine Kd.C_drewN ?_ _) | (with_reducible refine Kd.C_drew ?_))); (case side4 => exact HC1.out); rintro e w7 ⟨rfl, hb⟩; refine ⟨_, rfl, ?_⟩; have n0_ := Aside0.mk (blk_below (g := gb155) (o := .cells #[.int .i64 a0_0, .slice A0_1 l0_1.length c0_1] 24 (0, 0)) (by (with_reducible repeat (first | refine blk_drewN ?_ _ | refine blk_drew ?_ | refine blk_alloc ?_ _)); exact BK155.out) hb); have n1_ := Aside0.mk (below_step (by repeat (first | (with_reducible first | exact HB.out | apply below_alloc | apply pw_below_drewN | apply below_drew1 | refine below_set ?_ GE155.out) | exact HB.out)) hb); clear BK155; clear HB; have BK155 := n0_; have HB := n1_; clear n0_ n1_; (try clear hb); (try clear hb2); (try clear hk); (try clear hi)))
  go_loopg [8, 9] k (fun kq v8 v9 w' => ∃ (x8_1 : List (List Int)) (x9_1 : Int), v9 = .int .i64 x9_1 ∧ Aside0 (tangramref11_Around.l0 kq l1 x8_1 x9_1 a0_0 l0_1 = some (r1, r2)) ∧ Aside0 (kq ≤ k) ∧ Aside0 (Kd.S (Kd.slice 3 (Kd.int .i64)) 28 w' w.heap.size (fun _ => True) v8 x8_1) ∧ Aside0 (w'.heap[gb155]? = some (.cells #[.int .i64 a0_0, (.slice A0_1 l0_1.length c0_1)] 24 (0, 0))) ∧ Aside0 (Below w.heap.size w w'))
  case atStart => exact ⟨(([] : List (List Int))), (0), (by first | rfl | (simp; done) | (simp [*]; done)), H', ⟨Nat.le_refl _⟩, ⟨by first | exact Kd.S_nil _ _ _ _ _ | exact Kd.N_nil _ _ _ _ _ | exact Kd.V_nil _ _ _ _ _ | exact Kd.Q_nil _ _ _ _ _ | exact Kd.R_nil _ _ _ _ _⟩, ⟨by (with_reducible repeat (first | refine blk_drewN ?_ _ | refine blk_drew ?_ | refine blk_alloc ?_ _)); exact BK155.out⟩, ⟨by repeat (first | (with_reducible first | exact HB.out | apply below_alloc | apply pw_below_drewN | apply below_drew1 | refine below_set ?_ GE155.out) | exact HB.out)⟩⟩
  case round =>
   clear H'
   try clear c1
   try clear p2
   try clear c4
   try clear c4b0
   try clear c4b1
   try clear hcz6_0
   try clear hcz6_1
   try clear hfz6_0
   try clear hfz6_1
   obtain ⟨x8_1, x9_1, rfl, HA, HK1, HO_8, BK155, HB⟩ := hrel
   cases gk with
   | zero => exact absurd HA.out (by simp [tangramref11_Around.l0])
   | succ k1 =>
    have H := HA.out
    clear HA
    simp only [tangramref11_Around.l0] at H
    by_cases c8 : x9_1 < (l1.length : Int)
    ·rw [if_pos c8] at H
     have c8b0 : decide (x9_1 < (l1.length : Int)) = true := decide_eq_true c8
     clear c8
     have H' := Aside0.mk H
     clear H
     go_wp2
     go_loopg [10, 11] k1 (fun kq v10 v11 w' => ∃ (x10_2 : List Int) (x11_2 : Int), v11 = .int .i64 x11_2 ∧ Aside0 (tangramref11_Around.l1 kq l1 x8_1 x9_1 x10_2 x11_2 a0_0 l0_1 = some (r1, r2)) ∧ Aside0 (kq ≤ k1) ∧ Aside0 (Kd.S (Kd.slice 3 (Kd.int .i64)) 28 w' w.heap.size (fun k_ => some k_ ≠ (v10 : Value).ownBlock) u8 x8_1) ∧ Aside0 (Kd.R (Kd.int .i64) 3 w' w.heap.size (fun _ => True) v10 x10_2) ∧ Aside0 (w'.heap[gb155]? = some (.cells #[.int .i64 a0_0, (.slice A0_1 l0_1.length c0_1)] 24 (0, 0))) ∧ Aside0 (Below w.heap.size w w'))
     case atStart => exact ⟨(([] : List Int)), (0), (by first | rfl | (simp; done) | (simp [*]; done)), H', ⟨Nat.le_refl _⟩, ⟨by (with_reducible repeat (first | apply Kd.S_alloc | apply Kd.S_drewN | apply Kd.S_drew)); exact Kd.S_mono HO_8.out (fun _ hk => (by simp [Value.ownBlock]))⟩, ⟨by first | exact Kd.R_nil _ _ _ _ _ | exact Kd.N_nil _ _ _ _ _ | exact Kd.V_nil _ _ _ _ _ | exact Kd.Q_nil _ _ _ _ _ | exact Kd.S_nil _ _ _ _ _⟩, ⟨by (with_reducible repeat (first | refine blk_drewN ?_ _ | refine blk_drew ?_ | refine blk_alloc ?_ _)); exact BK155.out⟩, ⟨by repeat (first | (with_reducible first | exact HB.out | apply below_alloc | apply pw_below_drewN | apply below_drew1 | refine below_set ?_ GE155.out) | exact HB.out)⟩⟩
     case round =>
      clear H'
      try clear c1
      try clear p2
      try clear c4
      try clear c4b0
      try clear c4b1
      try clear c8
      try clear c8b0
      try clear hcz6_0
      try clear hcz6_1
      try clear hfz6_0
      try clear hfz6_1
      try clear p2
      obtain ⟨x10_2, x11_2, rfl, HA, HK2, HO_8, HO_10, BK155, HB⟩ := hrel
      cases gk with
      | zero => exact absurd HA.out (by simp [tangramref11_Around.l1])
      | succ k2 =>
       have H := HA.out
       clear HA
       simp only [tangramref11_Around.l1] at H
       by_cases c9 : 0 ≤ x9_1
       ·rw [if_pos c9] at H
        have c9b0 : decide (0 ≤ x9_1) = true := decide_eq_true c9
        clear c9
        by_cases c10 : x9_1 < (l1.length : Int)
        ·rw [if_pos c10] at H
         have c10b0 : decide (x9_1 < (l1.length : Int)) = true := decide_eq_true c10
         clear c10
         by_cases c11 : x11_2 < ((rd_L5 l1 x9_1).length : Int)
         ·rw [if_pos c11] at H
          have c11b0 : decide (x11_2 < ((rd_L5 l1 x9_1).length : Int)) = true := decide_eq_true c11
          clear c11
          by_cases c12 : 0 ≤ x11_2
          ·rw [if_pos c12] at H
           have c12b0 : decide (0 ≤ x11_2) = true := decide_eq_true c12
           clear c12
           replace H := Option.bind_eq_some_iff.mp H
           obtain ⟨t161, A130, H⟩ := H
           replace H : (if x10_2.length < 17592186044416 then (tangramref11_Around.l1 k2 l1 x8_1 x9_1 (x10_2 ++ [t161]) (wrap64 (x11_2 + 1)) a0_0 l0_1) else (none)) = some (r1, r2) := H
           have A13 := Aside0.mk A130
           clear A130
           by_cases c14 : x10_2.length < 17592186044416
           ·rw [if_pos c14] at H
            have LMc14 := Aside0.mk c14
            clear c14
            obtain ⟨y162, hy162⟩ : ∃ y_ : List Int, y_ = (x10_2 ++ [t161]) := ⟨_, rfl⟩
            replace H : (tangramref11_Around.l1 k2 l1 x8_1 x9_1 y162 (wrap64 (x11_2 + 1)) a0_0 l0_1) = some (r1, r2) := by first | (rw [hy162]; with_reducible exact H) | (have H2_ := (Option.bind_some _ _).symm.trans H; rw [hy162]; with_reducible exact H2_) | (have H2_ := (Option.bind_some _ _).symm.trans H; with_reducible exact H2_) | with_reducible exact H | (rw [hy162]; exact H) | exact H
            have Ny162 := Aside0.mk hy162
            clear hy162
            have H' := Aside0.mk H
            clear H
            have p158 : 0 ≤ (x9_1 : Int) := of_decide_eq_true (by first | (with_reducible assumption) | assumption)
            have q158 : x9_1 < (l1.length : Int) := of_decide_eq_true (by first | (with_reducible assumption) | assumption)
            obtain ⟨ad158, A158_0, c158_0, e158, hx158_0, hl158_0, hi158_0⟩ := at_L5 HR1.out x9_1 p158 q158
            cases e158
            replace hx158_0 := (HB.out.cell (World.block_lt_of_cell? w _ hx158_0)).trans hx158_0
            have HR158_0 := Aside0.mk hi158_0
            have HC158_0 := Aside0.mk hl158_0
            clear hi158_0 hl158_0
            replace p158 := eq_true p158
            replace q158 := eq_true q158
            try go_wp2
            have n0_ := Aside0.mk (Kd.S_drew HO_8.out)
            have n1_ := Aside0.mk (Kd.R_drew HO_10.out)
            have n2_ := Aside0.mk (blk_drew BK155.out)
            have n3_ := Aside0.mk (below_drew1 HB.out)
            clear HO_8
            clear HO_10
            clear BK155
            clear HB
            have HO_8 := n0_
            have HO_10 := n1_
            have BK155 := n2_
            have HB := n3_
            clear n0_ n1_ n2_ n3_
            have p159 : 0 ≤ (x9_1 : Int) := of_decide_eq_true (by first | (with_reducible assumption) | assumption)
            have q159 : x9_1 < (l1.length : Int) := of_decide_eq_true (by first | (with_reducible assumption) | assumption)
            obtain ⟨ad159, A159_0, c159_0, e159, hx159_0, hl159_0, hi159_0⟩ := at_L5 HR1.out x9_1 p159 q159
            have hw159_0 := hx159_0
            obtain rfl : ad158 = ad159 := (by injection e159)
            replace hx159_0 := (HB.out.cell (World.block_lt_of_cell? w _ hx159_0)).trans hx159_0
            have HR159_0 := Aside0.mk hi159_0
            have HC159_0 := Aside0.mk hl159_0
            clear hi159_0 hl159_0
            replace p159 := eq_true p159
            replace q159 := eq_true q159
            have p160 : 0 ≤ (x11_2 : Int) := of_decide_eq_true (by first | (with_reducible assumption) | assumption)
            have q160 : x11_2 < ((rd_L5 l1 x9_1).length : Int) := of_decide_eq_true (by first | (with_reducible assumption) | assumption)
            obtain ⟨ad160, e160, hx160_0⟩ := Kd.at_int HR159_0.out x11_2 p160 q160
            have hw160_0 := hx160_0
            cases e160
            replace hx160_0 := (HB.out.cell (World.block_lt_of_cell? w _ hx160_0)).trans hx160_0
            replace p160 := eq_true p160
            replace q160 := eq_true q160
            refine start_ (n := 13) (S := fun w' => w'.cell? ⟨gb155, 0, none⟩ = some (.int .i64 a0_0) ∧ w'.cell? ⟨gb155, 1, none⟩ = some (.slice A0_1 l0_1.length c0_1) ∧ w'.cell? (ad158.add (x9_1).toNat) = some (.slice (some ad160) (rd_L5 l1 x9_1).length c159_0) ∧ w'.cell? (ad160.add (x11_2).toNat) = some (.int .i64 (rd (rd_L5 l1 x9_1) x11_2))) (ds := []) #[false, false, false, false, false, false, false, false, false, false, false, false, false] (by kernel_rfl) rfl rfl ⟨(blk_cell BK155.out 0).trans rfl, (blk_cell BK155.out 1).trans rfl, ((HB.out.cell (World.block_lt_of_cell? w _ hw159_0)).trans hw159_0), ((HB.out.cell (World.block_lt_of_cell? w _ hw160_0)).trans hw160_0)⟩ (fun hHeld => ?_); refine with_tabW tangramref11_Around.tab12 tangramref11_Around.bits12 (fun HT_ HW_ => ?_)
            generalize wr.drew = w15 at HO_8 HO_10 BK155 HB HR159_0 hx159_0 hx160_0 hHeld ⊢
            refine pure_ (i := 0) (N := some 36) (v := ?_) (a' := ?_) #[true, false, false, false, false, false, false, false, false, false, false, false, false] rfl rfl (any_of HT_.out (by kernel_rfl)) (fun _ _ _ h => h) (Or.inl ⟨by rfl, ?_⟩) ?_ ?_
            rotate_left
            ·intro w'
             go_simp
             with_reducible rfl
            rotate_left
            ·simp only [Act.put, List.setIfInBounds_toArray, List.set_cons_zero, List.set_cons_succ, i64_w, i32_w]
             rfl
            refine pure_ (i := 2) (N := some 38) (v := ?_) (a' := ?_) #[true, false, true, false, false, false, false, false, false, false, false, false, false] rfl rfl (any_of HT_.out (by kernel_rfl)) (fun _ _ _ h => h) (Or.inl ⟨by rfl, ?_⟩) ?_ ?_
            rotate_left
            ·intro w'
             go_simp
             with_reducible rfl
            rotate_left
            ·simp only [Act.put, List.setIfInBounds_toArray, List.set_cons_zero, List.set_cons_succ, i64_w, i32_w]
             rfl
            refine pure_ (i := 3) (N := some 39) (v := ?_) (a' := ?_) #[true, false, true, true, false, false, false, false, false, false, false, false, false] rfl rfl (any_of HT_.out (by kernel_rfl)) (fun _ _ _ h => h) (Or.inl ⟨by rfl, ?_⟩) ?_ ?_
            rotate_left
            ·intro w'
             go_simp
             with_reducible rfl
            rotate_left
            ·simp only [Act.put, List.setIfInBounds_toArray, List.set_cons_zero, List.set_cons_succ, i64_w, i32_w]
             rfl
            refine pure_ (i := 4) (N := some 40) (v := ?_) (a' := ?_) #[true, false, true, true, true, false, false, false, false, false, false, false, false] rfl rfl (any_of HT_.out (by kernel_rfl)) (fun _ _ _ h => h) (Or.inl ⟨by rfl, ?_⟩) ?_ ?_
            rotate_left
            ·intro w'
             go_simp
             with_reducible rfl
            rotate_left
            ·simp only [Act.put, List.setIfInBounds_toArray, List.set_cons_zero, List.set_cons_succ, i64_w, i32_w]
             rfl
            refine pure_ (i := 6) (N := some 42) (v := ?_) (a' := ?_) #[true, false, true, true, true, false, true, false, false, false, false, false, false] rfl rfl (any_of HT_.out (by kernel_rfl)) (fun _ _ _ h => h) (Or.inl ⟨by rfl, ?_⟩) ?_ ?_
            rotate_left
            ·intro w'
             go_simp
             with_reducible rfl
            rotate_left
            ·simp only [Act.put, List.setIfInBounds_toArray, List.set_cons_zero, List.set_cons_succ, i64_w, i32_w]
             rfl
            refine take_ (i := 1) (N := some 37) (v := ?_) (a' := ?_) #[true, true, true, true, true, false, true, false, false, false, false, false, false] rfl rfl (take_ofW HT_.out HW_.out (by kernel_rfl)) (fun _ _ _ h => h) (Or.inl ⟨by rfl, ?_⟩) hHeld ?_ ?_
            rotate_left
            ·rintro w' ⟨s0, s1, s2, s3⟩
             go_simp
             with_reducible rfl
            rotate_left
            ·simp only [Act.put, List.setIfInBounds_toArray, List.set_cons_zero, List.set_cons_succ, i64_w, i32_w]
             rfl
            refine take_ (i := 5) (N := some 41) (v := ?_) (a' := ?_) #[true, true, true, true, true, true, true, false, false, false, false, false, false] rfl rfl (take_ofW HT_.out HW_.out (by kernel_rfl)) (fun _ _ _ h => h) (Or.inl ⟨by rfl, ?_⟩) hHeld ?_ ?_
            rotate_left
            ·rintro w' ⟨s0, s1, s2, s3⟩
             go_simp
             with_reducible rfl
            rotate_left
            ·simp only [Act.put, List.setIfInBounds_toArray, List.set_cons_zero, List.set_cons_succ, i64_w, i32_w]
             rfl
            refine pure_ (i := 7) (N := some 43) (v := ?_) (a' := ?_) #[true, true, true, true, true, true, true, true, false, false, false, false, false] rfl rfl (any_of HT_.out (by kernel_rfl)) (fun _ _ _ h => h) (Or.inl ⟨by rfl, ?_⟩) ?_ ?_
            rotate_left
            ·intro w'
             go_simp
             with_reducible rfl
            rotate_left
            ·simp only [Act.put, List.setIfInBounds_toArray, List.set_cons_zero, List.set_cons_succ, i64_w, i32_w]
             rfl
            refine take_ (i := 8) (N := some 44) (v := ?_) (a' := ?_) #[true, true, true, true, true, true, true, true, true, false, false, false, false] rfl rfl (take_ofW HT_.out HW_.out (by kernel_rfl)) (fun _ _ _ h => h) (Or.inl ⟨by rfl, ?_⟩) hHeld ?_ ?_
            rotate_left
            ·rintro w' ⟨s0, s1, s2, s3⟩
             go_simp
             with_reducible rfl
            rotate_left
            ·simp only [Act.put, List.setIfInBounds_toArray, List.set_cons_zero, List.set_cons_succ, i64_w, i32_w]
             rfl
            refine one_ (i := 9) (N := some 45) #[true, true, true, true, true, true, true, true, true, true, false, false, false] rfl rfl (one_of HT_.out (by kernel_rfl)) (by decide) (fun K hK => ?_)
            refine goes_ Try.func41 (by kernel_rfl) rfl #[.agg #[.int .i64 a0_0, .slice A0_1 l0_1.length c0_1], .int .i64 (rd (rd_L5 l1 x9_1) x11_2)] (by rfl) rfl rfl (by (try simp only [List.map_toArray, List.map_cons, List.map_nil]); first | done | rfl | (simp only [List.length_drop, List.length_take]; rfl)) ?_
            with_reducible refine (tangramref11_To.calls a0_0 _ _ l0_1 (rd (rd_L5 l1 x9_1) x11_2) t161 _ ?side1 ?side2 A13.out).mono ?_
            (case side1 => repeat (first | exact (Kd.C_below HR0_1.out HB.out) | (with_reducible refine Kd.C_alloc ?_ _) | (with_reducible refine Kd.C_drewN ?_ _) | (with_reducible refine Kd.C_drew ?_)))
            (case side2 => exact HC0_1.out)
            rintro e w16 ⟨rfl, hb⟩
            refine ⟨_, rfl, ?_⟩
            have n0_ := Aside0.mk (Kd.S_below (by (with_reducible repeat (first | apply Kd.S_alloc | apply Kd.S_drewN | apply Kd.S_drew)); exact HO_8.out) hb)
            have n1_ := Aside0.mk (Kd.R_below (by (with_reducible repeat (first | apply Kd.R_alloc | apply Kd.R_drewN | apply Kd.R_drew)); exact HO_10.out) hb)
            have n2_ := Aside0.mk (blk_below (g := gb155) (o := .cells #[.int .i64 a0_0, .slice A0_1 l0_1.length c0_1] 24 (0, 0)) (by (with_reducible repeat (first | refine blk_drewN ?_ _ | refine blk_drew ?_ | refine blk_alloc ?_ _)); exact BK155.out) hb)
            have n3_ := Aside0.mk (below_step (by repeat (first | (with_reducible first | exact HB.out | apply below_alloc | apply pw_below_drewN | apply below_drew1 | refine below_set ?_ GE155.out) | exact HB.out)) hb)
            clear HO_8
            clear HO_10
            clear BK155
            clear HB
            have HO_8 := n0_
            have HO_10 := n1_
            have BK155 := n2_
            have HB := n3_
            clear n0_ n1_ n2_ n3_
            (try clear hb)
            (try clear hb2)
            (try clear hk)
            (try clear hi)
            refine hK.out _ _ ⟨(blk_cell BK155.out 0).trans rfl, (blk_cell BK155.out 1).trans rfl, ((HB.out.cell (World.block_lt_of_cell? w _ hw159_0)).trans hw159_0), ((HB.out.cell (World.block_lt_of_cell? w _ hw160_0)).trans hw160_0)⟩ (fun hHeld => ?_)
            clear hK K
            refine norm_ (a' := ?_) ?_ ?_
            rotate_left
            ·show Act.put _ (some 45) _ = _
             simp only [Act.put, List.setIfInBounds_toArray, List.set_cons_zero, List.set_cons_succ, i64_w, i32_w]
             rfl
            refine one_ (i := 10) (N := some 46) #[true, true, true, true, true, true, true, true, true, true, true, false, false] rfl rfl (one_of HT_.out (by kernel_rfl)) (by decide) (fun K hK => ?_)
            refine value_ (w1 := ?_) (v := ?_) (by rfl) rfl ?_ ?_
            rotate_left 2
            ·go_simp
             constructor
             ·rfl
             ·rfl
            refine hK.out _ _ ⟨(blk_cell (blk_alloc BK155.out _) 0).trans rfl, (blk_cell (blk_alloc BK155.out _) 1).trans rfl, (World.cell?_alloc_lt _ _ _ (World.block_lt_of_cell? _ _ (((HB.out.cell (World.block_lt_of_cell? w _ hw159_0)).trans hw159_0)))).trans (((HB.out.cell (World.block_lt_of_cell? w _ hw159_0)).trans hw159_0)), (World.cell?_alloc_lt _ _ _ (World.block_lt_of_cell? _ _ (((HB.out.cell (World.block_lt_of_cell? w _ hw160_0)).trans hw160_0)))).trans (((HB.out.cell (World.block_lt_of_cell? w _ hw160_0)).trans hw160_0))⟩ (fun hHeld => ?_)
            clear hK K
            refine norm_ (a' := ?_) ?_ ?_
            rotate_left
            ·show Act.put _ (some 46) _ = _
             simp only [Act.put, List.setIfInBounds_toArray, List.set_cons_zero, List.set_cons_succ, i64_w, i32_w]
             rfl
            refine one_ (i := 11) (N := some 47) #[true, true, true, true, true, true, true, true, true, true, true, true, false] rfl rfl (one_of HT_.out (by kernel_rfl)) (by decide) (fun K hK => ?_)
            refine Kd.R_append_step (Kd.int .i64) (w0 := w) w.heap.size (by rfl) (.tmp 36) (.tmp 46) 28 3 (.int .i64 0) 8 rfl Try.underlying28 info3 rfl (by decide) (by omega) u10 x10_2 t161 [.int .i64 t161] (fun _ => True) (fun _ => False) rfl rfl ?aP (fun _ hk => hk.elim) ?aF ?aO ?aB ?aS ?aL ?_
            (case aP => exact rfl)
            (case aB => exact (by repeat (first | (with_reducible first | exact HB.out | apply below_alloc | apply pw_below_drewN | apply below_drew1 | refine below_set ?_ GE155.out) | exact HB.out)))
            (case aF => exact (fun _ _ => trivial))
            (case aO => exact (by (with_reducible repeat (first | apply Kd.R_alloc | apply Kd.R_drewN | apply Kd.R_drew)); exact HO_10.out))
            (case aS => exact (below_size (by repeat (first | (with_reducible first | exact HB.out | apply below_alloc | apply pw_below_drewN | apply below_drew1 | refine below_set ?_ GE155.out) | exact HB.out))))
            (case aL => have := LMc14.out; omega)
            intro v163 w17 ho hb hg hat
            rw [← Ny162.out] at ho
            have n0_ := Aside0.mk (Kd.S_after (ok := (fun _ => True)) (by (with_reducible repeat (first | apply Kd.S_alloc | apply Kd.S_drewN | apply Kd.S_drew)); exact Kd.S_mono HO_8.out (fun _ hk => ⟨trivial, hk⟩)) hg hat)
            have n1_ := Aside0.mk (blk_grown (g := gb155) (o := .cells #[.int .i64 a0_0, .slice A0_1 l0_1.length c0_1] 24 (0, 0)) (by (with_reducible repeat (first | refine blk_drewN ?_ _ | refine blk_drew ?_ | refine blk_alloc ?_ _)); exact BK155.out) hg (Kd.R_ne HO_10.out BK155.out (by decide)))
            have n2_ := Aside0.mk (hb)
            have n3_ := Aside0.mk (ho)
            clear HO_8
            clear BK155
            clear HB
            clear HO_10
            have HO_8 := n0_
            have BK155 := n1_
            have HB := n2_
            have HO164 := n3_
            clear n0_ n1_ n2_ n3_
            clear ho hb hg hat
            refine hK.out _ _ ⟨(blk_cell BK155.out 0).trans rfl, (blk_cell BK155.out 1).trans rfl, ((HB.out.cell (World.block_lt_of_cell? w _ hw159_0)).trans hw159_0), ((HB.out.cell (World.block_lt_of_cell? w _ hw160_0)).trans hw160_0)⟩ (fun hHeld => ?_)
            clear hK K
            refine norm_ (a' := ?_) ?_ ?_
            rotate_left
            ·show Act.put _ (some 47) _ = _
             simp only [Act.put, List.setIfInBounds_toArray, List.set_cons_zero, List.set_cons_succ, i64_w, i32_w]
             rfl
            refine pure_ (i := 12) (N := some 10) (v := ?_) (a' := ?_) #[true, true, true, true, true, true, true, true, true, true, true, true, true] rfl rfl (any_of HT_.out (by kernel_rfl)) (fun _ _ _ h => h) (Or.inl ⟨by rfl, ?_⟩) ?_ ?_
            rotate_left
            ·intro w'
             go_simp
             with_reducible rfl
            rotate_left
            ·simp only [Act.put, List.setIfInBounds_toArray, List.set_cons_zero, List.set_cons_succ, i64_w, i32_w]
             rfl
            refine done_ (done_of HT_.out (by kernel_rfl)) ?_
            try go_wp2
            go_roundg k2
            case measure => have := HK1.out; have := HK2.out; omega
            case rel => exact ⟨(y162), (wrap64 (x11_2 + 1)), (by first | rfl | (simp; done) | (simp [*]; done)), H', ⟨by have := HK1.out; have := HK2.out; omega⟩, ⟨by (with_reducible repeat (first | apply Kd.S_alloc | apply Kd.S_drewN | apply Kd.S_drew)); exact Kd.S_mono HO_8.out (fun _ hk => hk.2)⟩, ⟨by (with_reducible repeat (first | apply Kd.R_alloc | apply Kd.R_drewN | apply Kd.R_drew)); exact HO164.out⟩, ⟨by (with_reducible repeat (first | refine blk_drewN ?_ _ | refine blk_drew ?_ | refine blk_alloc ?_ _)); exact BK155.out⟩, ⟨by repeat (first | (with_reducible first | exact HB.out | apply below_alloc | apply pw_below_drewN | apply below_drew1 | refine below_set ?_ GE155.out) | exact HB.out)⟩⟩
           ·rw [if_neg c14] at H
            exact absurd H (by simp)
          ·rw [if_neg c12] at H
           exact absurd H (by simp)
         ·rw [if_neg c11] at H
          have c11b0 : decide (x11_2 < ((rd_L5 l1 x9_1).length : Int)) = false := decide_eq_false c11
          clear c11
          by_cases c18 : x8_1.length < 5864062014805
          ·rw [if_pos c18] at H
           have LMc18 := Aside0.mk c18
           clear c18
           obtain ⟨y165, hy165⟩ : ∃ y_ : List (List Int), y_ = (x8_1 ++ [x10_2]) := ⟨_, rfl⟩
           replace H : (tangramref11_Around.l0 k2 l1 y165 (wrap64 (x9_1 + 1)) a0_0 l0_1) = some (r1, r2) := by first | (rw [hy165]; with_reducible exact H) | (have H2_ := (Option.bind_some _ _).symm.trans H; rw [hy165]; with_reducible exact H2_) | (have H2_ := (Option.bind_some _ _).symm.trans H; with_reducible exact H2_) | with_reducible exact H | (rw [hy165]; exact H) | exact H
           have Ny165 := Aside0.mk hy165
           clear hy165
           have H' := Aside0.mk H
           clear H
           have p158 : 0 ≤ (x9_1 : Int) := of_decide_eq_true (by first | (with_reducible assumption) | assumption)
           have q158 : x9_1 < (l1.length : Int) := of_decide_eq_true (by first | (with_reducible assumption) | assumption)
           obtain ⟨ad158, A158_0, c158_0, e158, hx158_0, hl158_0, hi158_0⟩ := at_L5 HR1.out x9_1 p158 q158
           cases e158
           replace hx158_0 := (HB.out.cell (World.block_lt_of_cell? w _ hx158_0)).trans hx158_0
           have HR158_0 := Aside0.mk hi158_0
           have HC158_0 := Aside0.mk hl158_0
           clear hi158_0 hl158_0
           replace p158 := eq_true p158
           replace q158 := eq_true q158
           obtain ⟨Ao20, co20, eo20⟩ := Kd.R_slice HO_10.out
           subst eo20
           go_wp2_with (first | ((with_reducible refine gate_builtin (b := .append) (xs := #[.tmp 48, .tmp 50]) rfl ?_); at_builtin; refine Kd.S_append (Kd.slice 3 (Kd.int .i64)) (w0 := w) w.heap.size rfl (.tmp 48) (.tmp 50) 25 28 (.slice none 0 0) 24 rfl Try.underlying25 info28 rfl (by decide) (by omega) u8 x8_1 x10_2 [.slice Ao20 x10_2.length co20] (fun _ => True) (fun k_ => some k_ = (.slice Ao20 x10_2.length co20 : Value).ownBlock) rfl rfl ?aP (fun k_ hk_ => ((Kd.R_mono (ok' := fun k_ => ((fun _ => True)) k_ ∧ some k_ ≠ (u8 : Value).ownBlock) (Kd.R_apart' (HO_10.out) (Kd.S_typed HO_8.out) (by decide)) (fun k_ hk => ⟨trivial, hk.2⟩))).1 k_ hk_.symm) ?aF ?aO ?aB ?aS ?aL ?_; (case aP => exact Kd.M_row (Kd.R_mono (Kd.R_tight rfl (Kd.R_mono (ok' := fun k_ => ((fun _ => True)) k_ ∧ some k_ ≠ (u8 : Value).ownBlock) (Kd.R_apart' (HO_10.out) (Kd.S_typed HO_8.out) (by decide)) (fun k_ hk => ⟨trivial, hk.2⟩))) (fun _ h_ => h_))); (case aB => exact (by repeat (first | (with_reducible first | exact HB.out | apply below_alloc | apply pw_below_drewN | apply below_drew1 | refine below_set ?_ GE155.out) | exact HB.out))); (case aF => exact (fun _ _ => trivial)); (case aO => exact (by (with_reducible repeat (first | apply Kd.S_alloc | apply Kd.S_drewN | apply Kd.S_drew)); exact Kd.S_mono HO_8.out (fun k_ hk => ⟨trivial, fun e_ => hk e_⟩))); (case aS => exact (below_size (by repeat (first | (with_reducible first | exact HB.out | apply below_alloc | apply pw_below_drewN | apply below_drew1 | refine below_set ?_ GE155.out) | exact HB.out)))); (case aL => have := LMc18.out; omega); intro v166 w19 ho hb hg hat; rw [← Ny165.out] at ho; have n0_ := Aside0.mk (blk_grown (g := gb155) (o := .cells #[.int .i64 a0_0, .slice A0_1 l0_1.length c0_1] 24 (0, 0)) (by (with_reducible repeat (first | refine blk_drewN ?_ _ | refine blk_drew ?_ | refine blk_alloc ?_ _)); exact BK155.out) hg (Kd.S_ne HO_8.out BK155.out (by decide))); have n1_ := Aside0.mk (hb); have n2_ := Aside0.mk (ho); clear BK155; clear HB; clear HO_8; clear HO_10; have BK155 := n0_; have HB := n1_; have HO167 := n2_; clear n0_ n1_ n2_; clear ho hb hg hat))
           go_roundg k2
           case measure => have := HK1.out; have := HK2.out; omega
           case rel => exact ⟨(y165), (wrap64 (x9_1 + 1)), (by first | rfl | (simp; done) | (simp [*]; done)), H', ⟨by have := HK1.out; have := HK2.out; omega⟩, ⟨by (with_reducible repeat (first | apply Kd.S_alloc | apply Kd.S_drewN | apply Kd.S_drew)); exact HO167.out⟩, ⟨by (with_reducible repeat (first | refine blk_drewN ?_ _ | refine blk_drew ?_ | refine blk_alloc ?_ _)); exact BK155.out⟩, ⟨by repeat (first | (with_reducible first | exact HB.out | apply below_alloc | apply pw_below_drewN | apply below_drew1 | refine below_set ?_ GE155.out) | exact HB.out)⟩⟩
          ·rw [if_neg c18] at H
           exact absurd H (by simp)
        ·rw [if_neg c10] at H
         exact absurd H (by simp)
       ·rw [if_neg c9] at H
        exact absurd H (by simp)
    ·rw [if_neg c8] at H
     have c8b0 : decide (x9_1 < (l1.length : Int)) = false := decide_eq_false c8
     clear c8
     simp only [Option.some.injEq, Prod.mk.injEq] at H
     obtain ⟨rfl, rfl⟩ := H
     go_wp2
     go_ret2
     exact ⟨_, by first | rfl | (simp [errW_none, errW_some] <;> rfl) | (simp [*, errW_none, errW_some] <;> rfl), by (with_reducible repeat (first | apply Kd.S_alloc | apply Kd.S_drewN | apply Kd.S_drew)); exact HO_8.out, by repeat (first | (with_reducible first | exact HB.out | apply below_alloc | apply pw_below_drewN | apply below_drew1 | refine below_set ?_ GE155.out) | exact HB.out)⟩
 ·rw [if_neg c4] at H
  have c4b0 : (t157 == 0) = false := beq_eq_false_iff_ne.mpr c4
  have c4b1 : (t157 != 0) = true := bne_iff_ne.mpr c4
  simp only [Option.some.injEq, Prod.mk.injEq] at H
  obtain ⟨rfl, rfl⟩ := H
  go_enter Try.func19, Try.ntmps19
  go_wp2_with (first | ((with_reducible refine gate_dst (N := 2) rfl ?_); refine box_event ?hg (N := 2) ?hd (cs := #[.int .i64 a0_0, .slice A0_1 l0_1.length c0_1]) (t := 24) ?hr ?_; (case hd => rfl); (case hg => rfl); (case hr => first | (go_simp; done) | (go_simp; rfl)); intro gb155 hg w21 hbox hb; have n0_ := Aside0.mk (below_step (by repeat (first | (with_reducible first | exact HB.out | apply below_alloc | apply pw_below_drewN | apply below_drew1) | exact HB.out)) hb); have n1_ := Aside0.mk (hbox); have n2_ := Aside0.mk ((by rw [hg]; exact (below_size (by repeat (first | (with_reducible first | exact HB.out | apply below_alloc | apply pw_below_drewN | apply below_drew1) | exact HB.out))) : w.heap.size ≤ gb155)); have n3_ := Aside0.mk ((by rw [hg]; exact (below_size (by repeat (first | (with_reducible first | exact HB.out | apply below_alloc | apply pw_below_drewN | apply below_drew1) | exact HB.out))) : w.heap.size ≤ gb155)); clear HB; have HB := n0_; have BK155 := n1_; have GW155 := n2_; have GE155 := n3_; clear n0_ n1_ n2_ n3_; clear hb hbox hg; have hcz22_0 : w21.cell? ⟨gb155, 0, none⟩ = some (.int .i64 a0_0) := (blk_cell BK155.out 0).trans rfl; have hcz22_1 : w21.cell? ⟨gb155, 1, none⟩ = some (.slice A0_1 l0_1.length c0_1) := (blk_cell BK155.out 1).trans rfl; have hfz22_0 := blk_frozen BK155.out 0; have hfz22_1 := blk_frozen BK155.out 1) | ((with_reducible refine gate_callee (f := 16) rfl ?_); refine goesL_ (some 15) rfl rfl Try.func16 (by kernel_rfl) rfl #[.agg #[.int .i64 a0_0, .slice A0_1 l0_1.length c0_1], .slice A1 l1.length c1] rfl (by (try simp only [List.map_toArray, List.map_cons, List.map_nil]); first | done | rfl | (simp only [List.length_drop, List.length_take]; rfl)) ?_; (with_reducible refine (tangramref11_Check.calls k a0_0 _ _ l0_1 _ _ l1 t156 t157 _ ?side1 ?side2 ?side3 ?side4 A3.out).mono ?_); (case side1 => repeat (first | exact (Kd.C_below HR0_1.out HB.out) | (with_reducible refine Kd.C_alloc ?_ _) | (with_reducible refine Kd.C_drewN ?_ _) | (with_reducible refine Kd.C_drew ?_))); (case side2 => exact HC0_1.out); (case side3 => repeat (first | exact (Kd.C_below HR1.out HB.out) | (with_reducible refine Kd.C_alloc ?_ _) | (with_reducible refine Kd.C_drewN ?_ _) | (with_reducible refine Kd.C_drew ?_))); (case side4 => exact HC1.out); rintro e w23 ⟨rfl, hb⟩; refine ⟨_, rfl, ?_⟩; have n0_ := Aside0.mk (blk_below (g := gb155) (o := .cells #[.int .i64 a0_0, .slice A0_1 l0_1.length c0_1] 24 (0, 0)) (by (with_reducible repeat (first | refine blk_drewN ?_ _ | refine blk_drew ?_ | refine blk_alloc ?_ _)); exact BK155.out) hb); have n1_ := Aside0.mk (below_step (by repeat (first | (with_reducible first | exact HB.out | apply below_alloc | apply pw_below_drewN | apply below_drew1 | refine below_set ?_ GE155.out) | exact HB.out)) hb); clear BK155; clear HB; have BK155 := n0_; have HB := n1_; clear n0_ n1_; (try clear hb); (try clear hb2); (try clear hk); (try clear hi)))
  go_ret2
  exact ⟨_, by first | rfl | (simp [errW_none, errW_some] <;> rfl) | (simp [*, errW_none, errW_some] <;> rfl), by first | exact Kd.S_nil _ _ _ _ _ | exact Kd.N_nil _ _ _ _ _ | exact Kd.V_nil _ _ _ _ _ | exact Kd.Q_nil _ _ _ _ _ | exact Kd.R_nil _ _ _ _ _, by repeat (first | (with_reducible first | exact HB.out | apply below_alloc | apply pw_below_drewN | apply below_drew1 | refine below_set ?_ GE155.out) | exact HB.out)⟩
end Go.Proofs.Ytkkhhbegeboonaa.GAll
namespace Go.Proofs.Ytkkhhbegeboonaa.EJ
open Go.RowKit Go.Proofs.YtkkhhbegeboonaaW.PrintWords Go.Proofs.YtkkhhbegeboonaaW.PrintLast Go.Proofs.YtkkhhbegeboonaaW.PrintMore Go.Proofs.Ytkkhhbegeboonaa.GAll Go.Proofs.Ytkkhhbegeboonaa.Mem Go.Proofs.Ytkkhhbegeboonaa.Pile Go.Proofs.Ytkkhhbegeboonaa.Own
set_option linter.unusedVariables false
set_option linter.unusedSimpArgs false
theorem below_drewN' {k : Nat} {a b : World} (h : Below k a b) (m : Nat) : Below k a (b.drewN m) := ⟨h.os, h.tape, h.output, h.size, h.block⟩
theorem edge_at {w : World} {A : Option Addr} {l : List Eg} {i : Nat} (h : Kd.C kE w A l.length l) (hi : i < l.length) : ∃ ad, A = some ad ∧ w.cell? (ad.add (i * 2)) = some (.int .i64 (rd_T59 l (i : Int)).f0) ∧ w.cell? ⟨(ad.add (i * 2)).block, (ad.add (i * 2)).off + 1, none⟩ = some (.int .i64 (rd_T59 l (i : Int)).f1) := by
 obtain ⟨ad, e, h1, h2⟩ := at_T59 h (i : Int) (by omega) (by omega)
 exact ⟨ad, e, h1, h2⟩
theorem make_ints (m : Nat) (hm : m * 8 ≤ 281474976710656) : ∃ CZ : Array Value, CZ.size = m * 1 ∧ ∀ W : World, (Instr.makeSlice 28 (.int .i64 0) (.int .i64 (m : Int))).run Try.prog W = .ok (.slice (some ⟨W.heap.size, 0, none⟩) 0 m) (W.alloc (.cells CZ 3 (0, 0))) := by
 obtain ⟨i0, hi, hzz⟩ := Option.map_eq_some_iff.1 info_int
 simp only [Prod.mk.injEq] at hzz
 obtain ⟨hz0, hz1, hz2⟩ := hzz
 refine ⟨madeCells (Value.int .i64 0).cells (m * 1), size_madeCells _ _, fun W => ?_⟩
 have h := run_make (P := Try.prog) W 28 3 i0 _ Try.underlying28 hi hz0 .i64 .i64 0 (m : Int) (Int.le_refl _) (by omega) (by rw [hz2]; omega) (by omega)
 rw [hz1, Int.toNat_natCast] at h
 exact h
structure RM (k : Nat) (n : Int) (l : List Eg) (r : List (List Int)) (nx : List Int) (e1 : Int) (want : List (List Int)) (e : Int) (bk : List (List Int)) (vb eb : Int) (cr mr : List (List Int)) : Prop where
 nxt : rot_Next.f k n l r = some (nx, e1)
 aro : rot_Around.f k n l r = some (want, e)
 ref : tangramref11_Around.f k n l r = some (want, e)
 frm : rot_From.f k n l want = some (bk, vb, eb)
 bck : e = 0 → bk = r
 can : rot_Canon.f k r = some cr
 rcn : tangramref11_Canon.f k r = some cr
 mir : rot_Mirror.f k r = some mr
 eq1 : tangramref11_Equal.f k want want = some true
 eq2 : tangramref11_Equal.f k cr cr = some true
 eq3 : tangramref11_Equal.f k r r = some true
 alk : ∀ v, v < r.length → tangramref11_Alike.f k (gl r v) (gl r v) = some true
 wl : want.length ≤ r.length
 bl : bk.length ≤ r.length
 cl : cr.length = r.length
 ml : mr.length = r.length
 nb : nx.length ≤ 9000000
 wb : ∀ x ∈ want, x.length ≤ 9000000
 bb : ∀ x ∈ bk, x.length ≤ 9000000
 cb : ∀ x ∈ cr, x.length ≤ 9000000
 mb : ∀ x ∈ mr, x.length ≤ 9000000
 rl : r.length ≤ 1048576
 rb : ∀ v, v < r.length → (gl r v).length ≤ 1048576
theorem Outer.grown {w w' : World} {A : Option Addr} {T : List Value} {S1 S2 base : Nat} {v : Value} {xs : List (List Value)} (h : Outer w A T) (hA : ∀ g, A = some ⟨g, 0, none⟩ → S1 ≤ g ∧ g < S2) (hR : Kd.R (Kd.raw 1) 28 w base (fun k => k < S1 ∨ S2 ≤ k) v xs) (hg : w.grownBy w' v.ownBlock) : Outer w' A T := ⟨fun j hj => by
 obtain ⟨g, e, hc⟩ := h.cells j hj
 refine ⟨g, e, (World.cell?_of_block (hg.block g (cell_lt hc) (fun q => ?_))).trans hc⟩
 have a := hA g e
 have b := hR.1 g q.symm
 omega⟩
structure Got (w : World) (lo hi : Nat) (A : Option Addr) (c : Nat) (T : List Value) (xs : List (List Int)) : Prop where
 hp : Heaps w lo hi T xs
 out : Outer w A T
 far : ∀ g, A = some ⟨g, 0, none⟩ → lo ≤ g ∧ g < hi
theorem Got.of {w : World} {lo : Nat} {ok : Nat → Prop} {v : Value} {xs : List (List Int)} (h : Kd.S KR 28 w lo ok v xs) : ∃ A c T, v = .slice A xs.length c ∧ xs.length ≤ c ∧ Kd.C KR w A xs.length xs ∧ Got w lo w.heap.size A c T xs := by
 obtain ⟨A, c, rfl, hc, hC⟩ := Kd.S_reads h
 obtain ⟨T, h1, h2, _⟩ := Heaps.of_S h
 exact ⟨A, c, T, rfl, hc, hC, h1, h2, fun g e => ⟨Kd.S_base h g (by rw [e]; rfl), Kd.S_lt h g (by rw [e]; rfl)⟩⟩
section
variable {w w' : World} {lo hi : Nat} {A : Option Addr} {c : Nat} {T : List Value} {xs : List (List Int)}
theorem Got.below (h : Got w lo hi A c T xs) (hb : Below w.heap.size w w') : Got w' lo hi A c T xs := ⟨h.hp.below hb, h.out.below hb, h.far⟩
theorem Got.grown {S1 S2 base : Nat} {v : Value} {ys : List (List Value)} (h : Got w lo hi A c T xs) (h1 : S1 ≤ lo) (h2 : hi ≤ S2) (hR : Kd.R (Kd.raw 1) 28 w base (fun k => k < S1 ∨ S2 ≤ k) v ys) (hg : w.grownBy w' v.ownBlock) : Got w' lo hi A c T xs :=
 ⟨h.hp.grown (Kd.R_typed hR) hg, Outer.grown h.out (fun g e => by have := h.far g e; omega) hR hg, h.far⟩
theorem Got.reads (h : Got w lo hi A c T xs) (hl : xs.length ≤ 9000000) : Kd.C (Kd.raw 1) w A xs.length (ones T) := by
 have := h.out.reads h.hp (by rw [h.hp.len]; omega)
 rw [h.hp.len] at this
 exact this
end
set_option maxHeartbeats 8000000 in
set_option maxRecDepth 100000 in
theorem mem_walk (k : Nat) (n : Int) (A : Option Addr) (c : Nat) (l : List Eg) (A1 : Option Addr) (c1 : Nat) (r : List (List Int)) (w : World) (hr : Kd.C kE w A l.length l) (hc : l.length ≤ c) (hr1 : Kd.C KR w A1 r.length r) (hc1 : r.length ≤ c1) (hll : l.length ≤ 8796093021952)
  (nx : List Int) (e1 : Int) (want : List (List Int)) (e : Int) (bk : List (List Int)) (vb eb : Int) (cr mr : List (List Int)) (hm : RM k n l r nx e1 want e bk vb eb cr mr) :
  Calls Try.prog 9 #[.agg #[.int .i64 n, .slice A l.length c], .slice A1 r.length c1] w fun e w' => e = .returned (.bool true) ∧ Below w.heap.size w w' := by
 have HX := Aside0.mk (heap_last w (.cells #[.int .i64 n, .slice A l.length c] 24 (0, 0)))
 have HB : Aside0 (Below w.heap.size w (w.alloc (.cells #[.int .i64 n, .slice A l.length c] 24 (0, 0)))) := ⟨(Below.refl _ _).alloc (Nat.le_refl _) _⟩
 have HRR := Aside0.mk hr
 have HR1 := Aside0.mk hr1
 have HCC := Aside0.mk hc
 have HCC1 := Aside0.mk hc1
 have HM := Aside0.mk hm
 clear hr hr1 hc hc1 hm
 go_enter Try.func9, Try.ntmps9
 go_wp2_with fail
 obtain ⟨b, hb1⟩ : ∃ b, b = w.heap.size := ⟨_, rfl⟩
 rw [← hb1] at HX ⊢
 have HBL := Aside0.mk hb1
 clear hb1
 refine (tangramlaw11_fixed.calls true _ rfl).mono ?_
 rintro e' w1 ⟨rfl, hb⟩
 have HB1 := Aside0.mk (HB.out.trans (hb.mono HB.out.size))
 have HX1 := Aside0.mk ((hb.block _ (lt_of HX.out)).trans HX.out)
 clear hb HB HX
 go_upto_region 3 with (fail)
 have HL0 : Aside0 ((([] : List Eg).length + l.length) * 16 ≤ 140737488355328) := ⟨by simp; omega⟩
 have HG0 : Aside0 (Kd.C kE w1.drew A l.length l) := ⟨Kd.C_below HRR.out HB1.out.drew⟩
 have X0 : Aside0 (w1.drew.cell? ⟨b, 0, none⟩ = some (.int .i64 n)) := ⟨heap_cell HX1.out rfl⟩
 have X1 : Aside0 (w1.drew.cell? ⟨b, 1, none⟩ = some (.slice A l.length c)) := ⟨heap_cell HX1.out rfl⟩
 have HB0 : Aside0 (Below w.heap.size w w1.drew) := ⟨HB1.out.drew⟩
 have HX0 : Aside0 (w1.drew.heap[b]? = some (.cells #[.int .i64 n, .slice A l.length c] 24 (0, 0))) := ⟨HX1.out⟩
 clear HB1 HX1
 have Y0 := X0
 have Y1 := X1
 obtain ⟨w0, hw0⟩ : ∃ w0, w0 = w1.drew := ⟨_, rfl⟩
 rw [← hw0] at HG0 X0 X1 HB0 HX0
 have HW0 := Aside0.mk hw0
 clear hw0
 have HJ0 : Aside0 (J w0 w0 none none none) := ⟨J.start w0⟩
 refine start_ (n := 9) (S := fun w' => w'.cell? ⟨b, 0, none⟩ = some (.int .i64 n) ∧ w'.cell? ⟨b, 1, none⟩ = some (.slice A l.length c)) (ds := [8]) #[false, false, false, false, false, false, false, false, false] (by kernel_rfl) rfl rfl ⟨Y0.out, Y1.out⟩ (fun hHeld => ?_)
 refine pure_ (i := 0) (N := some 27) (v := ?_) (a' := ?_) #[true, false, false, false, false, false, false, false, false] rfl rfl (by kernel_rfl) (fun _ _ _ h => h) (Or.inl ⟨by rfl, ?_⟩) ?_ ?_
 rotate_left
 ·intro w'
  go_simp
  with_reducible rfl
 rotate_left
 ·simp only [Act.put, List.setIfInBounds_toArray, List.set_cons_zero, List.set_cons_succ, i64_w, i32_w]
  rfl
 refine pure_ (i := 3) (N := some 30) (v := ?_) (a' := ?_) #[true, false, false, true, false, false, false, false, false] rfl rfl (by kernel_rfl) (fun _ _ _ h => h) (Or.inl ⟨by rfl, ?_⟩) ?_ ?_
 rotate_left
 ·intro w'
  go_simp
  with_reducible rfl
 rotate_left
 ·simp only [Act.put, List.setIfInBounds_toArray, List.set_cons_zero, List.set_cons_succ, i64_w, i32_w]
  rfl
 refine take_ (i := 1) (N := some 28) (v := ?_) (a' := ?_) #[true, true, false, true, false, false, false, false, false] rfl rfl (by kernel_rfl) (fun _ _ _ h => h) (Or.inl ⟨by rfl, ?_⟩) hHeld ?_ ?_
 rotate_left
 ·rintro w' ⟨s0, s1⟩
  go_simp
  with_reducible rfl
 rotate_left
 ·simp only [Act.put, List.setIfInBounds_toArray, List.set_cons_zero, List.set_cons_succ, i64_w, i32_w]
  rfl
 refine take_ (i := 4) (N := some 31) (v := ?_) (a' := ?_) #[true, true, false, true, true, false, false, false, false] rfl rfl (by kernel_rfl) (fun _ _ _ h => h) (Or.inl ⟨by rfl, ?_⟩) hHeld ?_ ?_
 rotate_left
 ·rintro w' ⟨s0, s1⟩
  go_simp
  with_reducible rfl
 rotate_left
 ·simp only [Act.put, List.setIfInBounds_toArray, List.set_cons_zero, List.set_cons_succ, i64_w, i32_w]
  rfl
 refine join_ (σ := Value × (Option Addr × Nat) × Nat) 1 #[true, true, true, true, true, true, true, true, false] (fun s => [(29, s.1), (32, .slice s.2.1.1 l.length s.2.1.2), (33, .agg #[.int .i64 n, .slice s.2.1.1 l.length s.2.1.2]), (5, .pointer (some ⟨s.2.2, 0, none⟩))]) (fun s w' => J w0 w' (some (.slice s.2.1.1 l.length s.2.1.2, l)) none (some s.2.2)) ?_ ?_
 rotate_left
 ·intro hCont
  refine two_ (i := 2) (j := 7) (Ni := some 29) (Nj := some 5) #[true, true, true, true, true, false, false, false, false] #[true, true, false, true, true, false, false, true, false] rfl rfl rfl rfl (by kernel_rfl) (by decide) (by decide) (fun K hK => ?_) (fun K hK => ?_)
  ·skip
   refine value_ (w1 := ?_) (v := ?_) (by rfl) rfl ?_ ?_
   rotate_left 2
   ·go_simp
    constructor
    ·rfl
    ·rfl
   obtain ⟨w2, hw2⟩ : ∃ w2, w2 = (w1.alloc (.cells #[] 59 (0, 0))).drew := ⟨_, rfl⟩
   obtain ⟨v2, hv2⟩ : ∃ v2, v2 = Value.slice (some ⟨w1.heap.size, 0, none⟩) 0 0 := ⟨_, rfl⟩
   have HJ2 : Aside0 (J w0 w2 (some (v2, [])) none none) := ⟨by rw [hw2, hv2]; have h := HJ0.out.made #[] 0 (by unfold maxLen; omega) rfl; first | exact h | (rw [HW0.out] at h ⊢; exact h)⟩
   rw [← hw2, ← hv2]
   clear hw2 hv2
   refine hK.out _ _ ⟨HJ2.out.cell X0.out, HJ2.out.cell X1.out⟩ (fun hHeld => ?_)
   clear hK K
   refine norm_ (a' := ?_) ?_ ?_
   rotate_left
   ·show Act.put _ (some 29) _ = _
    simp only [Act.put, List.setIfInBounds_toArray, List.set_cons_zero, List.set_cons_succ, i64_w, i32_w]
    rfl
   refine two_ (i := 5) (j := 7) (Ni := some 32) (Nj := some 5) #[true, true, true, true, true, true, false, false, false] #[true, true, true, true, true, false, false, true, false] rfl rfl rfl rfl (by kernel_rfl) (by decide) (by decide) (fun K hK => ?_) (fun K hK => ?_)
   ·skip
    refine J.rows_step (w0 := w0) (W := w2) (by rfl) (.tmp 29) (.tmp 31) 22 rfl Try.underlying22 info_edge v2 [] l A l.length c rfl rfl HJ2.out (Kd.C_below HG0.out HJ2.out.old) HL0.out ?_
    intro v5 w5 hJ5
    rw [List.nil_append] at hJ5
    obtain ⟨A5, c5, rfl⟩ := Kd.R_slice (hJ5.row _ _ rfl)
    have HJ5 : Aside0 (J w0 w5 (some (.slice A5 l.length c5, l)) none none) := ⟨hJ5⟩
    clear hJ5
    refine hK.out _ _ ⟨HJ5.out.cell X0.out, HJ5.out.cell X1.out⟩ (fun hHeld => ?_)
    clear hK K
    refine norm_ (a' := ?_) ?_ ?_
    rotate_left
    ·show Act.put _ (some 32) _ = _
     simp only [Act.put, List.setIfInBounds_toArray, List.set_cons_zero, List.set_cons_succ, i64_w, i32_w]
     rfl
    refine pure_ (i := 6) (N := some 33) (v := ?_) (a' := ?_) #[true, true, true, true, true, true, true, false, false] rfl rfl (by kernel_rfl) (fun _ _ _ h => h) (Or.inl ⟨by rfl, ?_⟩) ?_ ?_
    rotate_left
    ·intro w'
     go_simp
     with_reducible rfl
    rotate_left
    ·simp only [Act.put, List.setIfInBounds_toArray, List.set_cons_zero, List.set_cons_succ, i64_w, i32_w]
     rfl
    refine one_ (i := 7) (N := some 5) #[true, true, true, true, true, true, true, true, false] rfl rfl (by kernel_rfl) (by decide) (fun K hK => ?_)
    refine value_ (w1 := ?_) (v := ?_) (by rfl) rfl ?_ ?_
    rotate_left 2
    ·go_simp
     constructor
     ·rfl
     ·rfl
    obtain ⟨w7, hw7⟩ : ∃ w7, w7 = w5.alloc (.cells #[.int .i64 0, .slice none 0 0] 24 (0, 0)) := ⟨_, rfl⟩
    obtain ⟨b7, hb7⟩ : ∃ b7, b7 = w5.heap.size := ⟨_, rfl⟩
    have HJ7 : Aside0 (J w0 w7 (some (.slice A5 l.length c5, l)) none (some b7)) := ⟨by rw [hw7, hb7]; have h := HJ5.out.graphed; first | exact h | (rw [HW0.out] at h ⊢; exact h)⟩
    rw [← hw7, ← hb7]
    clear hw7 hb7
    refine hK.out _ _ ⟨HJ7.out.cell X0.out, HJ7.out.cell X1.out⟩ (fun hHeld => ?_)
    clear hK K
    refine norm_ (a' := ?_) ?_ ?_
    rotate_left
    ·show Act.put _ (some 5) _ = _
     simp only [Act.put, List.setIfInBounds_toArray, List.set_cons_zero, List.set_cons_succ, i64_w, i32_w]
     rfl
    exact norm_ (by simp only [putAll, Act.put, List.setIfInBounds_toArray, List.set_cons_zero, List.set_cons_succ]) (hCont (v2, (A5, c5), b7) _ HJ7.out)
   ·skip
    refine value_ (w1 := ?_) (v := ?_) (by rfl) rfl ?_ ?_
    rotate_left 2
    ·go_simp
     constructor
     ·rfl
     ·rfl
    obtain ⟨w7, hw7⟩ : ∃ w7, w7 = w2.alloc (.cells #[.int .i64 0, .slice none 0 0] 24 (0, 0)) := ⟨_, rfl⟩
    obtain ⟨b7, hb7⟩ : ∃ b7, b7 = w2.heap.size := ⟨_, rfl⟩
    have HJ7 : Aside0 (J w0 w7 (some (v2, [])) none (some b7)) := ⟨by rw [hw7, hb7]; have h := HJ2.out.graphed; first | exact h | (rw [HW0.out] at h ⊢; exact h)⟩
    rw [← hw7, ← hb7]
    clear hw7 hb7
    refine hK.out _ _ ⟨HJ7.out.cell X0.out, HJ7.out.cell X1.out⟩ (fun hHeld => ?_)
    clear hK K
    refine norm_ (a' := ?_) ?_ ?_
    rotate_left
    ·show Act.put _ (some 5) _ = _
     simp only [Act.put, List.setIfInBounds_toArray, List.set_cons_zero, List.set_cons_succ, i64_w, i32_w]
     rfl
    refine one_ (i := 5) (N := some 32) #[true, true, true, true, true, true, false, true, false] rfl rfl (by kernel_rfl) (by decide) (fun K hK => ?_)
    refine J.rows_step (w0 := w0) (W := w7) (by rfl) (.tmp 29) (.tmp 31) 22 rfl Try.underlying22 info_edge v2 [] l A l.length c rfl rfl HJ7.out (Kd.C_below HG0.out HJ7.out.old) HL0.out ?_
    intro v5 w5 hJ5
    rw [List.nil_append] at hJ5
    obtain ⟨A5, c5, rfl⟩ := Kd.R_slice (hJ5.row _ _ rfl)
    have HJ5 : Aside0 (J w0 w5 (some (.slice A5 l.length c5, l)) none (some b7)) := ⟨hJ5⟩
    clear hJ5
    refine hK.out _ _ ⟨HJ5.out.cell X0.out, HJ5.out.cell X1.out⟩ (fun hHeld => ?_)
    clear hK K
    refine norm_ (a' := ?_) ?_ ?_
    rotate_left
    ·show Act.put _ (some 32) _ = _
     simp only [Act.put, List.setIfInBounds_toArray, List.set_cons_zero, List.set_cons_succ, i64_w, i32_w]
     rfl
    refine pure_ (i := 6) (N := some 33) (v := ?_) (a' := ?_) #[true, true, true, true, true, true, true, true, false] rfl rfl (by kernel_rfl) (fun _ _ _ h => h) (Or.inl ⟨by rfl, ?_⟩) ?_ ?_
    rotate_left
    ·intro w'
     go_simp
     with_reducible rfl
    rotate_left
    ·simp only [Act.put, List.setIfInBounds_toArray, List.set_cons_zero, List.set_cons_succ, i64_w, i32_w]
     rfl
    exact norm_ (by simp only [putAll, Act.put, List.setIfInBounds_toArray, List.set_cons_zero, List.set_cons_succ]) (hCont (v2, (A5, c5), b7) _ HJ5.out)
  ·skip
   refine value_ (w1 := ?_) (v := ?_) (by rfl) rfl ?_ ?_
   rotate_left 2
   ·go_simp
    constructor
    ·rfl
    ·rfl
   obtain ⟨w7, hw7⟩ : ∃ w7, w7 = (w1.alloc (.cells #[.int .i64 0, .slice none 0 0] 24 (0, 0))).drew := ⟨_, rfl⟩
   obtain ⟨b7, hb7⟩ : ∃ b7, b7 = w1.heap.size := ⟨_, rfl⟩
   have HJ7 : Aside0 (J w0 w7 none none (some b7)) := ⟨by rw [hw7, hb7]; have h := HJ0.out.graphed; first | exact h | (rw [HW0.out] at h ⊢; exact h)⟩
   rw [← hw7, ← hb7]
   clear hw7 hb7
   refine hK.out _ _ ⟨HJ7.out.cell X0.out, HJ7.out.cell X1.out⟩ (fun hHeld => ?_)
   clear hK K
   refine norm_ (a' := ?_) ?_ ?_
   rotate_left
   ·show Act.put _ (some 5) _ = _
    simp only [Act.put, List.setIfInBounds_toArray, List.set_cons_zero, List.set_cons_succ, i64_w, i32_w]
    rfl
   refine one_ (i := 2) (N := some 29) #[true, true, true, true, true, false, false, true, false] rfl rfl (by kernel_rfl) (by decide) (fun K hK => ?_)
   refine value_ (w1 := ?_) (v := ?_) (by rfl) rfl ?_ ?_
   rotate_left 2
   ·go_simp
    constructor
    ·rfl
    ·rfl
   obtain ⟨w2, hw2⟩ : ∃ w2, w2 = w7.alloc (.cells #[] 59 (0, 0)) := ⟨_, rfl⟩
   obtain ⟨v2, hv2⟩ : ∃ v2, v2 = Value.slice (some ⟨w7.heap.size, 0, none⟩) 0 0 := ⟨_, rfl⟩
   have HJ2 : Aside0 (J w0 w2 (some (v2, [])) none (some b7)) := ⟨by rw [hw2, hv2]; have h := HJ7.out.made #[] 0 (by unfold maxLen; omega) rfl; first | exact h | (rw [HW0.out] at h ⊢; exact h)⟩
   rw [← hw2, ← hv2]
   clear hw2 hv2
   refine hK.out _ _ ⟨HJ2.out.cell X0.out, HJ2.out.cell X1.out⟩ (fun hHeld => ?_)
   clear hK K
   refine norm_ (a' := ?_) ?_ ?_
   rotate_left
   ·show Act.put _ (some 29) _ = _
    simp only [Act.put, List.setIfInBounds_toArray, List.set_cons_zero, List.set_cons_succ, i64_w, i32_w]
    rfl
   refine one_ (i := 5) (N := some 32) #[true, true, true, true, true, true, false, true, false] rfl rfl (by kernel_rfl) (by decide) (fun K hK => ?_)
   refine J.rows_step (w0 := w0) (W := w2) (by rfl) (.tmp 29) (.tmp 31) 22 rfl Try.underlying22 info_edge v2 [] l A l.length c rfl rfl HJ2.out (Kd.C_below HG0.out HJ2.out.old) HL0.out ?_
   intro v5 w5 hJ5
   rw [List.nil_append] at hJ5
   obtain ⟨A5, c5, rfl⟩ := Kd.R_slice (hJ5.row _ _ rfl)
   have HJ5 : Aside0 (J w0 w5 (some (.slice A5 l.length c5, l)) none (some b7)) := ⟨hJ5⟩
   clear hJ5
   refine hK.out _ _ ⟨HJ5.out.cell X0.out, HJ5.out.cell X1.out⟩ (fun hHeld => ?_)
   clear hK K
   refine norm_ (a' := ?_) ?_ ?_
   rotate_left
   ·show Act.put _ (some 32) _ = _
    simp only [Act.put, List.setIfInBounds_toArray, List.set_cons_zero, List.set_cons_succ, i64_w, i32_w]
    rfl
   refine pure_ (i := 6) (N := some 33) (v := ?_) (a' := ?_) #[true, true, true, true, true, true, true, true, false] rfl rfl (by kernel_rfl) (fun _ _ _ h => h) (Or.inl ⟨by rfl, ?_⟩) ?_ ?_
   rotate_left
   ·intro w'
    go_simp
    with_reducible rfl
   rotate_left
   ·simp only [Act.put, List.setIfInBounds_toArray, List.set_cons_zero, List.set_cons_succ, i64_w, i32_w]
    rfl
   exact norm_ (by simp only [putAll, Act.put, List.setIfInBounds_toArray, List.set_cons_zero, List.set_cons_succ]) (hCont (v2, (A5, c5), b7) _ HJ5.out)
 rintro ⟨v2, ⟨A5, c5⟩, b7⟩ w16 hF
 have HJ16 : Aside0 (J w0 w16 (some (.slice A5 l.length c5, l)) none (some b7)) := ⟨hF⟩
 clear hF
 have hHeld : w16.cell? ⟨b, 0, none⟩ = some (.int .i64 n) ∧ w16.cell? ⟨b, 1, none⟩ = some (.slice A l.length c) := ⟨HJ16.out.cell X0.out, HJ16.out.cell X1.out⟩
 have f0 : w16.frozen? ⟨b7, 0, none⟩ = false := heap_free (HJ16.out.graph _ rfl) 0
 have f1 : w16.frozen? ⟨b7, 1, none⟩ = false := heap_free (HJ16.out.graph _ rfl) 1
 have g0 : w16.cell? ⟨b7, 0, none⟩ = some (.int .i64 0) := heap_cell (HJ16.out.graph _ rfl) rfl
 have g1 : w16.cell? ⟨b7, 1, none⟩ = some (.slice none 0 0) := heap_cell (HJ16.out.graph _ rfl) rfl
 refine norm_ (a' := ?_) ?_ ?_
 rotate_left
 ·simp only [putAll, Act.put, List.setIfInBounds_toArray, List.set_cons_zero, List.set_cons_succ]
  rfl
 refine last_ (i := 8) (N := none) #[true, true, true, true, true, true, true, true, true] rfl rfl (by kernel_rfl) (by decide) (fun K hK => ?_)
 refine skip_ (w1 := ?_) (by rfl) rfl ?_ ?_
 rotate_left
 ·go_simp
  rfl
 refine hK.out _ _ ?_
 clear hK K
 refine done_ (by kernel_rfl) ?_
 have hR16 := HJ16.out.row _ _ rfl
 have hgr := HJ16.out.graph _ rfl
 obtain ⟨wg, hwg⟩ : ∃ wg, wg = (w16.setCell ⟨b7, 0, none⟩ (.int .i64 n)).setCell ⟨b7, 1, none⟩ (.slice A5 l.length c5) := ⟨_, rfl⟩
 have hgb : some b7 ≠ (Value.slice A5 l.length c5).ownBlock := Kd.R_ne hR16 hgr (by decide)
 have hlob := HJ16.out.lo _ rfl
 have hF16 : Mem.Frame (· = b7) w16 wg := by
  rw [hwg]
  exact (Mem.Frame.setCell (S := (· = b7)) (p := ⟨b7, 0, none⟩) (Mem.Frame.refl _ _) rfl _).setCell (p := ⟨b7, 1, none⟩) rfl _
 have HH0 : Aside0 (wg.heap[b7]? = some (.cells #[.int .i64 n, .slice A5 l.length c5] 24 (0, 0))) := ⟨by
  have := heap_set (i := 1) (heap_set (i := 0) hgr (.int .i64 n)) (.slice A5 l.length c5)
  rw [hwg]
  simpa using this⟩
 have hE := Kd.R_reads' (Kd.R_step (w1 := wg) (Kd.R_tight (by rfl) hR16) (fun k hk hlt => hF16.block k hlt (fun e => hgb (by rw [← hk, e]))))
 have HE0 : Aside0 (Kd.C kE wg A5 l.length l) := ⟨hE.2.2⟩
 have HEL : Aside0 (l.length ≤ c5) := ⟨hE.2.1⟩
 have HBG : Aside0 (Below w.heap.size w wg) := ⟨HB0.out.trans ((HJ16.out.old.mono HB0.out.size).trans (hF16.below (Nat.le_trans HB0.out.size HJ16.out.old.size) (fun k hk => by rw [hk]; exact Nat.le_trans HB0.out.size hlob)))⟩
 have hbw0 : b < w0.heap.size := lt_of HX0.out
 have HXG : Aside0 (wg.heap[b]? = some (.cells #[.int .i64 n, .slice A l.length c] 24 (0, 0))) := ⟨hF16.blk ((HJ16.out.old.block _ hbw0).trans HX0.out) (fun e => by omega)⟩
 clear hR16 hgr hgb hlob hF16 hE hbw0 HJ16 f0 f1 g0 g1 hHeld HG0 X0 X1 Y0 Y1 HB0 HX0 HW0 HJ0 HL0
 rw [← hwg]
 clear hwg
 go_wp2_with fail
 obtain ⟨B0, hB0⟩ : ∃ B0, B0 = wg.heap.size := ⟨_, rfl⟩
 have HW : Aside0 (∃ T : List (Nat × Nat), T.length = 0 ∧ Tab wg B0 r T ∧ Kd.R (Kd.raw 1) 28 wg B0 (fun k => True ∧ some k ≠ (Value.slice none 0 0).ownBlock) (.slice none 0 0) (vals r T 2) ∧ Kd.R (Kd.raw 1) 28 wg B0 (fun k => True ∧ some k ≠ (Value.slice none 0 0).ownBlock) (.slice none 0 0) (vals r T 0)) :=
  ⟨[], rfl, Tab.nil _ _ _, Kd.R_nil _ _ _ _ _, Kd.R_nil _ _ _ _ _⟩
 have HBW : Aside0 (Below B0 wg wg) := ⟨Below.refl _ _⟩
 have HB0 : Aside0 (w.heap.size ≤ B0 ∧ B0 = wg.heap.size) := ⟨by rw [hB0]; exact HBG.out.size, hB0⟩
 clear hB0
 go_loopw [6, 7, 36] (fun u v y wr => ∃ (j : Nat) (Ai Aw : Option Addr) (ci cw : Nat), u = .slice Ai j ci ∧ v = .slice Aw j cw ∧ y = .int .i64 (j : Int) ∧ j ≤ r.length ∧ Aside0 (∃ T : List (Nat × Nat), T.length = j ∧ Tab wr B0 r T ∧ Kd.R (Kd.raw 1) 28 wr B0 (fun k => True ∧ some k ≠ (Value.slice Ai j ci).ownBlock) (.slice Aw j cw) (vals r T 2) ∧ Kd.R (Kd.raw 1) 28 wr B0 (fun k => True ∧ some k ≠ (Value.slice Aw j cw).ownBlock) (.slice Ai j ci) (vals r T 0)) ∧ Aside0 (Below B0 wg wr)) (fun _ _ y _ => r.length - (intOf y).toNat)
 case atStart => exact ⟨0, none, none, 0, 0, rfl, rfl, rfl, by omega, HW, HBW⟩
 case round =>
  clear HW HBW
  obtain ⟨j, Ai, Aw, ci, cw, rfl, rfl, rfl, hj, HW, HBW⟩ := hrel
  have hrl := HM.out.rl
  by_cases hlt : j < r.length
  ·have hsz : B0 ≤ wr.heap.size := by have := HB0.out.2; have := HBW.out.size; omega
   have HSZ := Aside0.mk hsz
   have HRC : Aside0 (Kd.C KR wr A1 r.length r) := ⟨Kd.C_below HR1.out (HBG.out.trans (HBW.out.mono HB0.out.1))⟩
   obtain ⟨ad, D, cD, eA, hx0, hcD, hrow⟩ := row_at HRC.out hlt
   obtain ⟨row, hrw⟩ : ∃ row, row = gl r j := ⟨_, rfl⟩
   rw [← hrw] at hx0 hcD hrow
   have HRW := Aside0.mk hrw
   have hrl2 := HM.out.rb j hlt
   rw [← hrw] at hrl2
   have HL2 := Aside0.mk hrl2
   subst eA
   obtain ⟨M2, hM2⟩ : ∃ M2, M2 = row.length + 2 := ⟨_, rfl⟩
   obtain ⟨CZ, hcz, mk1⟩ := make_ints M2 (by omega)
   have r1 : IntKind.i64.wrap ((row.length : Int) + 2) = (M2 : Int) := by rw [IntWalk.i64_in _ (by omega)]; omega
   have hb0 : Below wr.heap.size wr (wr.alloc (.cells CZ 3 (0, 0))) := (Below.refl _ _).alloc (Nat.le_refl _) _
   have HO : Aside0 (Kd.R (Kd.int .i64) 3 (wr.alloc (.cells CZ 3 (0, 0))) wr.heap.size (fun _ => True) (.slice (some ⟨wr.heap.size, 0, none⟩) 0 M2) []) := ⟨⟨fun _ _ => trivial, [], World.ownsRow_made wr CZ M2 (Nat.le_refl _) (by unfold maxLen; omega) hcz, Reps.none _ _⟩⟩
   have HL := Aside0.mk (Kd.C_below hrow hb0)
   have HB2 := Aside0.mk hb0
   have hzl : (([] : List Int).length + row.length) * 8 ≤ 140737488351232 := by simp; omega
   clear hrow hb0 hrw hcz hM2
   go_wp2_with (at_builtin; go_loud (refine Kd.R_append_rows (Kd.int .i64) (Rr := (Kd.int .i64).K (wr.alloc (.cells CZ 3 (0, 0)))) (w0 := wr) (W := wr.alloc (.cells CZ 3 (0, 0))) wr.heap.size rfl _ _ 28 3 (.int .i64 0) 8 rfl Try.underlying28 info_int rfl (by decide) (by decide) (.slice (some ⟨wr.heap.size, 0, none⟩) 0 M2) [] row D row.length cD (fun _ => True) (fun _ => False) rfl rfl HO.out HL.out (fun _ _ h => h) (fun _ h => h.elim) (fun _ _ => trivial) HB2.out HB2.out.size (by have := hzl; simp at this ⊢; omega) ?_))
   intro v1 w2 hR hb1 _ _
   obtain ⟨D1, d1, rfl, _, _⟩ := Kd.R_reads hR
   have hbl : Below w2.heap.size w2 (w2.alloc (.cells #[.int .i64 (-71), .int .i64 (-72)] 3 (0, 0))) := (Below.refl _ _).alloc (Nat.le_refl _) _
   have HO2 := Aside0.mk (Kd.R_below hR hbl)
   have HL3 := Aside0.mk (two_lit w2 wr.heap.size hb1.size (-71) (-72))
   have HB3 : Aside0 (Below wr.heap.size wr (w2.alloc (.cells #[.int .i64 (-71), .int .i64 (-72)] 3 (0, 0)))) := ⟨hb1.trans (hbl.mono hb1.size)⟩
   clear hR hb1 hbl HO HL HB2 hx0 hzl mk1 r1
   go_wp2_with (at_builtin; go_loud (refine Kd.R_append_rows (Kd.int .i64) (Rr := (Kd.int .i64).K (w2.alloc (.cells #[.int .i64 (-71), .int .i64 (-72)] 3 (0, 0)))) (w0 := wr) (W := w2.alloc (.cells #[.int .i64 (-71), .int .i64 (-72)] 3 (0, 0))) wr.heap.size rfl _ _ 28 3 (.int .i64 0) 8 rfl Try.underlying28 info_int rfl (by decide) (by decide) (.slice D1 row.length d1) row [-71, -72] (some ⟨w2.heap.size, 0, none⟩) 2 2 (fun _ => True) (fun _ => False) rfl rfl HO2.out HL3.out (fun _ _ h => h) (fun _ h => h.elim) (fun _ _ => trivial) HB3.out HB3.out.size (by have := HL2.out; omega) ?_))
   intro v2 w3 hR hb3 _ _
   obtain ⟨g, c2, rfl, hg0, hg1, _⟩ := Kd.R_form hR (by simp)
   have hlen : (row ++ [-71, -72]).length = row.length + 2 := by simp
   rw [hlen] at hR
   have hcap : row.length ≤ c2 := by have := (Kd.R_reads' hR).2.1; omega
   rw [hlen]
   obtain ⟨T, hT, hTab, hWh, hIn⟩ := HW.out
   subst hT
   have hTab3 := hTab.below hb3
   have hWh3 := Kd.R_below hWh hb3
   have hIn3 := Kd.R_below hIn hb3
   have HTN : Aside0 (∀ i, i < T.length → (tb T i).1 < wr.heap.size) := ⟨fun i hi => (hTab.lt hi).2⟩
   have HB4 : Aside0 (Below B0 wg w3) := ⟨HBW.out.trans (hb3.mono HSZ.out)⟩
   have HROW := Aside0.mk (Kd.R_lower hR HSZ.out)
   have HT3 := Aside0.mk hTab3
   have HW3 := Aside0.mk hWh3
   have HI3 := Aside0.mk hIn3
   have HG0 := Aside0.mk hg0
   have hs3 : B0 ≤ w3.heap.size := Nat.le_trans HSZ.out hb3.size
   have HS3 := Aside0.mk hs3
   have HCAP := Aside0.mk hcap
   clear hR hb3 hTab hWh hIn hTab3 hWh3 hIn3 hg0 hg1 hs3 hlen HO2 HL3 HB3 HW hcap hsz
   have HVL : Aside0 ((vals r T 2).length = T.length ∧ (vals r T 0).length = T.length) := ⟨vals_length _ _ _, vals_length _ _ _⟩
   have HFI : Aside0 (∀ q, w3.heap.size ≤ q → True ∧ some q ≠ (Value.slice Ai T.length ci).ownBlock) := ⟨fun q hq => ⟨trivial, fun e => by have := Kd.R_lt HI3.out q e.symm; omega⟩⟩
   go_wp2_with ((with_reducible refine gate_builtin (b := .append) (xs := #[.tmp 48, .tmp 50]) rfl ?_); at_builtin; refine Kd.R_append (Kd.raw 1) (w0 := wg) B0 rfl (.tmp 48) (.tmp 50) 25 28 (.slice none 0 0) 24 rfl Try.underlying25 info_ints rfl (by decide) (by omega) (.slice Aw T.length cw) (vals r T 2) [.slice (some ⟨g, 0, none⟩) (row.length + 2) c2] [.slice (some ⟨g, 0, none⟩) (row.length + 2) c2] (fun k => True ∧ some k ≠ (Value.slice Ai T.length ci).ownBlock) (fun _ => False) rfl rfl (raw_one _ rfl _ _ _) (fun _ hk => hk.elim) HFI.out HW3.out HB4.out HS3.out (by have := HVL.out.1; omega) ?_)
   intro v4 w4 hR4 hb4 hg4 hat4
   have hI4 := Kd.R_after (v := .slice Aw T.length cw) HI3.out hg4 hat4
   have hT4 := HT3.out.grown (v := .slice Aw T.length cw) (Kd.R_typed HW3.out) hg4
   have hR5 := Kd.R_over' (v := .slice Aw T.length cw) HROW.out (Kd.R_typed HW3.out) (by decide) hg4
   have HTB4 : Aside0 (Tab w4 B0 r (T ++ [(g, c2)])) := ⟨hT4.snoc HTN.out HG0.out (by rw [← HRW.out]; exact hR5)⟩
   have e4 : vals r T 2 ++ [[.slice (some ⟨g, 0, none⟩) (row.length + 2) c2]] = vals r (T ++ [(g, c2)]) 2 := by rw [vals_snoc, ← HRW.out]
   rw [e4] at hR4
   obtain ⟨Aw2, cw2, rfl⟩ := Kd.R_slice hR4
   rw [vals_length, List.length_append, List.length_singleton] at hR4 hI4
   rw [vals_length, List.length_append, List.length_singleton]
   have HW4 : Aside0 (Kd.R (Kd.raw 1) 28 w4 B0 (fun k => True ∧ some k ≠ (Value.slice Ai T.length ci).ownBlock) (.slice Aw2 (T.length + 1) cw2) (vals r (T ++ [(g, c2)]) 2)) := ⟨Kd.R_mono hR4 (fun k hk => ⟨trivial, fun e => by first | exact hk.2 e | exact hk e⟩)⟩
   have HI4 := Aside0.mk hI4
   have HB5 := Aside0.mk hb4
   have HS4 : Aside0 (B0 ≤ w4.heap.size) := ⟨Nat.le_trans HS3.out hg4.size⟩
   have HFI4 : Aside0 (∀ q, w4.heap.size ≤ q → True ∧ some q ≠ (Value.slice Aw2 (T.length + 1) cw2).ownBlock) := ⟨fun q hq => ⟨trivial, fun e => by have := Kd.R_lt HW4.out q e.symm; omega⟩⟩
   clear hR4 hI4 hT4 hR5 hb4 hg4 hat4 e4 HFI HW3 HI3 HT3 HROW HB4 HS3 HTN HG0 HRC
   have hcap := HCAP.out
   have q1 := slice_own g (row.length + 2) c2 row.length HCAP.out
   go_wp2_with ((with_reducible refine gate_builtin (b := .append) (xs := #[.tmp 52, .tmp 57]) rfl ?_); at_builtin; refine Kd.R_append (Kd.raw 1) (w0 := wg) B0 rfl (.tmp 52) (.tmp 57) 26 28 (.slice none 0 0) 24 rfl Try.underlying26 info_ints rfl (by decide) (by omega) (.slice Ai T.length ci) (vals r T 0) [.slice (some ⟨g, 0, none⟩) row.length c2] [.slice (some ⟨g, 0, none⟩) row.length c2] (fun k => True ∧ some k ≠ (Value.slice Aw2 (T.length + 1) cw2).ownBlock) (fun _ => False) rfl rfl (raw_one _ rfl _ _ _) (fun _ hk => hk.elim) HFI4.out HI4.out HB5.out HS4.out (by have := HVL.out.2; omega) ?_)
   intro v5 w5 hR5 hb5 hg5 hat5
   have hW5 := Kd.R_after (v := .slice Ai T.length ci) HW4.out hg5 hat5
   have hT5 := HTB4.out.grown (v := .slice Ai T.length ci) (Kd.R_typed HI4.out) hg5
   have e5 : vals r T 0 ++ [[.slice (some ⟨g, 0, none⟩) row.length c2]] = vals r (T ++ [(g, c2)]) 0 := by rw [vals_snoc, ← HRW.out]; rfl
   rw [e5] at hR5
   obtain ⟨Ai2, ci2, rfl⟩ := Kd.R_slice hR5
   rw [vals_length, List.length_append, List.length_singleton] at hR5 hW5
   rw [vals_length, List.length_append, List.length_singleton]
   have HNW : Aside0 (∃ T' : List (Nat × Nat), T'.length = T.length + 1 ∧ Tab w5 B0 r T' ∧ Kd.R (Kd.raw 1) 28 w5 B0 (fun k => True ∧ some k ≠ (Value.slice Ai2 (T.length + 1) ci2).ownBlock) (.slice Aw2 (T.length + 1) cw2) (vals r T' 2) ∧ Kd.R (Kd.raw 1) 28 w5 B0 (fun k => True ∧ some k ≠ (Value.slice Aw2 (T.length + 1) cw2).ownBlock) (.slice Ai2 (T.length + 1) ci2) (vals r T' 0)) := ⟨_, by simp, hT5, hW5, Kd.R_mono hR5 (fun k hk => ⟨trivial, fun e => by first | exact hk.2 e | exact hk e⟩)⟩
   have HNB := Aside0.mk hb5
   clear hR5 hW5 hT5 hb5 hg5 hat5 e5 HFI4 HI4 HW4 HTB4 HB5 HS4 HVL q1 hcap hcD
   go_wp2_with fail
   go_roundw
   case rel => exact ⟨T.length + 1, Ai2, Aw2, ci2, cw2, rfl, rfl, by go_num, by omega, HNW, HNB⟩
   case measure => simp [intOf]; omega
  ·obtain rfl : j = r.length := by omega
   obtain ⟨T, hT, hTab, hWh, hIn⟩ := HW.out
   have hInC := hTab.reads hT (by rw [hT]; exact hIn)
   have HB := Aside0.mk (HBG.out.trans (HBW.out.mono HB0.out.1))
   have hbw : Below wg.heap.size wg wr := by have h := HBW.out; rw [HB0.out.2] at h; exact h
   have HX3 : Aside0 (wr.heap[b]? = some (.cells #[.int .i64 n, .slice A l.length c] 24 (0, 0))) := ⟨(hbw.block _ (lt_of HXG.out)).trans HXG.out⟩
   have HH3 : Aside0 (wr.heap[b7]? = some (.cells #[.int .i64 n, .slice A5 l.length c5] 24 (0, 0))) := ⟨(hbw.block _ (lt_of HH0.out)).trans HH0.out⟩
   have HE3 := Aside0.mk (Kd.C_below HE0.out hbw)
   have HIN3 := Aside0.mk hInC.1
   have HINL := Aside0.mk hInC.2
   have HTT := Aside0.mk hT
   have HTAB3 := Aside0.mk hTab
   have HWH3 := Aside0.mk hWh
   have HII3 := Aside0.mk hIn
   clear hT hTab hWh hIn hInC hbw HW HBW HBG HXG HH0 HE0 hj hlt
   have x0 : wr.cell? ⟨b, 0, none⟩ = some (.int .i64 n) := heap_cell HX3.out rfl
   have x1 : wr.cell? ⟨b, 1, none⟩ = some (.slice A l.length c) := heap_cell HX3.out rfl
   go_wp2_with fail
   clear x0 x1
   refine (tangramref11_Around.calls k n A c l A1 c1 r want e wr (Kd.C_below HRR.out HB.out) HCC.out (Kd.C_below HR1.out HB.out) HCC1.out HM.out.ref).mono ?_
   rintro e' wL ⟨vw, rfl, hS, hb⟩
   obtain ⟨Awt, cwt, rfl, hcw, hS⟩ := Kd.S_reads hS
   have HWT := Aside0.mk hS
   have HWTL := Aside0.mk hcw
   have HBL2 := Aside0.mk (HB.out.trans (hb.mono HB.out.size))
   have HX := Aside0.mk ((hb.block _ (lt_of HX3.out)).trans HX3.out)
   have HH := Aside0.mk ((hb.block _ (lt_of HH3.out)).trans HH3.out)
   have HE := Aside0.mk (Kd.C_below HE3.out hb)
   have HIN := Aside0.mk (Kd.C_below HIN3.out hb)
   have HTAB := Aside0.mk (HTAB3.out.below hb)
   have HWH := Aside0.mk (Kd.R_below HWH3.out hb)
   have HII := Aside0.mk (Kd.R_below HII3.out hb)
   clear hS hcw hb HB HX3 HH3 HE3 HIN3 HTAB3 HWH3 HII3
   have HRA0 : Aside0 (Kd.R (Kd.raw 1) 28 wL wL.heap.size (fun _ => True) (.slice none 0 ([] : List Value).length) (ones [])) := ⟨Kd.R_nil _ _ _ _ _⟩
   have HHE0 : Aside0 (Heaps wL wL.heap.size wL.heap.size [] []) := ⟨Heaps.nil _ _ _⟩
   have HBE0 : Aside0 (Below wL.heap.size wL wL) := ⟨Below.refl _ _⟩
   go_wp2_with fail
   go_loopw [13, 14] (fun u y ws => ∃ (q M : Nat) (Aa : Option Addr) (ca : Nat) (T2 : List Value) (D : List (List Int)), u = .slice Aa M ca ∧ y = .int .i64 (q : Int) ∧ q ≤ 6 ∧ Aside0 (M ≤ q * 4200000 ∧ (∀ x ∈ D, x.length ≤ 9000000) ∧ T2.length = M) ∧ Aside0 (Kd.R (Kd.raw 1) 28 ws wL.heap.size (fun _ => True) (.slice Aa M ca) (ones T2)) ∧ Aside0 (Heaps ws wL.heap.size ws.heap.size T2 D) ∧ Aside0 (Below wL.heap.size wL ws)) (fun _ y _ => 6 - (intOf y).toNat)
   case atStart => exact ⟨0, 0, none, 0, [], [], rfl, rfl, by omega, ⟨⟨by omega, (fun x hx => absurd hx (by simp)), rfl⟩⟩, HRA0, HHE0, HBE0⟩
   case round =>
    clear HRA0 HHE0 HBE0
    obtain ⟨q, M, Aa, ca, T2, D, rfl, rfl, hq, HTL, HRA, HHE, HBE⟩ := hrel
    by_cases hlt : q < 6
    ·have s1 : decide ((q : Int) < 6) = true := decide_eq_true (by omega)
     obtain ⟨S1, hS1⟩ : ∃ S1, S1 = wr.heap.size := ⟨_, rfl⟩
     have HSL : Aside0 (wL.heap.size ≤ S1 ∧ S1 = wr.heap.size) := ⟨by rw [hS1]; exact HBE.out.size, hS1⟩
     clear hS1
     have y0 : wr.cell? ⟨b7, 0, none⟩ = some (.int .i64 n) := heap_cell ((HBE.out.block _ (lt_of HH.out)).trans HH.out) rfl
     have y1 : wr.cell? ⟨b7, 1, none⟩ = some (.slice A5 l.length c5) := heap_cell ((HBE.out.block _ (lt_of HH.out)).trans HH.out) rfl
     go_wp2_with fail
     clear y0 y1
     refine (rot_Next.calls k n A5 c5 l Ai ci r nx e1 wr (Kd.C_below HE.out HBE.out) HEL.out (Kd.C_below HIN.out HBE.out) HINL.out HM.out.nxt).mono ?_
     rintro e' w8 ⟨v8, rfl, hR, hb⟩
     obtain ⟨An, cn, rfl⟩ := Kd.R_slice hR
     have HN8 : Aside0 (Heaps w8 S1 w8.heap.size [.slice An nx.length cn] [nx]) := ⟨by rw [HSL.out.2]; exact Heaps.one hR⟩
     have HRA8 := Aside0.mk (Kd.R_below (Kd.R_mono (Kd.R_bound HRA.out) (fun k hk => (show k < S1 from by rw [HSL.out.2]; exact hk.2.2.1))) hb)
     have HHE8 : Aside0 (Heaps w8 wL.heap.size S1 T2 D) := ⟨by have h := HHE.out.below hb; rw [← HSL.out.2] at h; exact h⟩
     have HS8 : Aside0 (S1 ≤ w8.heap.size) := ⟨by rw [HSL.out.2]; exact hb.size⟩
     replace HBE := Aside0.mk (HBE.out.trans (hb.mono HBE.out.size))
     clear hR hb HRA HHE
     have y0 : w8.cell? ⟨b7, 0, none⟩ = some (.int .i64 n) := heap_cell ((HBE.out.block _ (lt_of HH.out)).trans HH.out) rfl
     have y1 : w8.cell? ⟨b7, 1, none⟩ = some (.slice A5 l.length c5) := heap_cell ((HBE.out.block _ (lt_of HH.out)).trans HH.out) rfl
     go_wp2_with fail
     clear y0 y1
     refine (rot_Around.calls k n A5 c5 l Ai ci r want e w8 (Kd.C_below HE.out HBE.out) HEL.out (Kd.C_below HIN.out HBE.out) HINL.out HM.out.aro).mono ?_
     rintro e' w9 ⟨v9, rfl, hS, hb⟩
     obtain ⟨Ar, crr, Tr, rfl, hcr, hC, hGt⟩ := Got.of hS
     have HAC := Aside0.mk hC
     have HACL := Aside0.mk hcr
     have HAG := Aside0.mk hGt
     have HN9 := Aside0.mk (HN8.out.below hb)
     have HRA9 := Aside0.mk (Kd.R_below HRA8.out hb)
     have HHE9 := Aside0.mk (HHE8.out.below hb)
     have HS9 : Aside0 (w8.heap.size ≤ w9.heap.size) := ⟨hb.size⟩
     replace HBE := Aside0.mk (HBE.out.trans (hb.mono HBE.out.size))
     clear hS hb hcr hC hGt HN8 HRA8 HHE8
     have y0 : w9.cell? ⟨b7, 0, none⟩ = some (.int .i64 n) := heap_cell ((HBE.out.block _ (lt_of HH.out)).trans HH.out) rfl
     have y1 : w9.cell? ⟨b7, 1, none⟩ = some (.slice A5 l.length c5) := heap_cell ((HBE.out.block _ (lt_of HH.out)).trans HH.out) rfl
     go_wp2_with fail
     clear y0 y1
     refine (rot_From.calls k n A5 c5 l Awt cwt want bk vb eb w9 (Kd.C_below HE.out HBE.out) HEL.out (Kd.C_below HWT.out HBE.out) HWTL.out HM.out.frm).mono ?_
     rintro e' w10 ⟨v10, rfl, hS, hb⟩
     obtain ⟨Ab, cb, Tb, rfl, hcb, hC, hGt⟩ := Got.of hS
     have HBC := Aside0.mk hC
     have HBCL := Aside0.mk hcb
     have HBG := Aside0.mk hGt
     replace HAC := Aside0.mk (Kd.C_below HAC.out hb)
     replace HAG := Aside0.mk (HAG.out.below hb)
     have HN10 := Aside0.mk (HN9.out.below hb)
     have HRA10 := Aside0.mk (Kd.R_below HRA9.out hb)
     have HHE10 := Aside0.mk (HHE9.out.below hb)
     obtain ⟨S2, hS2⟩ : ∃ S2, S2 = w10.heap.size := ⟨_, rfl⟩
     have HS10 : Aside0 (w9.heap.size ≤ S2 ∧ S2 = w10.heap.size) := ⟨by rw [hS2]; exact hb.size, hS2⟩
     rw [← hS2] at HBG
     replace HBE := Aside0.mk (HBE.out.trans (hb.mono HBE.out.size))
     clear hS hb hcb hC hGt hS2 HN9 HRA9 HHE9
     go_upto_region 21 with (fail)
     go_cut [115] from 66 to 129 (fun s wx => s = .bool false ∧ Aside0 (Below w10.heap.size w10 wx))
     case first =>
      have t1 : (e != e) = false := bne_eq_false_iff_eq.2 rfl
      go_wp2_with fail
      refine (tangramref11_Equal.calls k Ar crr want Awt cwt want true w10 HAC.out HACL.out (Kd.C_below HWT.out HBE.out) HWTL.out HM.out.eq1).mono ?_
      rintro e' w11 ⟨rfl, hd⟩
      have HC11 := Aside0.mk hd.below
      clear hd
      go_wp2_with fail
      refine (rot_Canon.calls k Ai ci r cr w11 (Kd.C_below (Kd.C_below HIN.out HBE.out) HC11.out) HINL.out HM.out.can).mono ?_
      rintro e' w12 ⟨v12, rfl, hS, hb⟩
      obtain ⟨Ac, cc, rfl, hcc, hS⟩ := Kd.S_reads hS
      have HC12 := Aside0.mk (HC11.out.trans (hb.mono HC11.out.size))
      have HK12 := Aside0.mk hS
      have HKL := Aside0.mk hcc
      clear hS hb hcc HC11
      go_wp2_with fail
      refine (tangramref11_Canon.calls k A1 c1 r cr w12 (Kd.C_below (Kd.C_below (Kd.C_below HR1.out HBL2.out) (HBE.out.mono (Nat.le_refl _))) HC12.out) HCC1.out HM.out.rcn).mono ?_
      rintro e' w13 ⟨v13, rfl, hS, hb⟩
      obtain ⟨Ad, cd, rfl, hcd, hS⟩ := Kd.S_reads hS
      have HC13 := Aside0.mk (HC12.out.trans (hb.mono HC12.out.size))
      have HK13 := Aside0.mk (Kd.C_below HK12.out hb)
      have HJ13 := Aside0.mk hS
      have HJL := Aside0.mk hcd
      clear hS hb hcd HC12 HK12
      go_wp2_with fail
      refine (tangramref11_Equal.calls k Ac cc cr Ad cd cr true w13 HK13.out HKL.out HJ13.out HJL.out HM.out.eq2).mono ?_
      rintro e' w14 ⟨rfl, hd⟩
      have HC14 := Aside0.mk (HC13.out.trans (hd.below.mono HC13.out.size))
      clear hd HC13 HK13 HJ13 HKL HJL
      by_cases he : e = 0
      ·have t2 : (e == 0) = true := beq_iff_eq.2 he
       have HEQ : Aside0 (tangramref11_Equal.f k bk r = some true) := ⟨by rw [HM.out.bck he]; exact HM.out.eq3⟩
       clear he
       go_wp2_with fail
       refine (tangramref11_Equal.calls k Ab cb bk A1 c1 r true w14 (Kd.C_below HBC.out HC14.out) HBCL.out (Kd.C_below (Kd.C_below (Kd.C_below HR1.out HBL2.out) HBE.out) HC14.out) HCC1.out HEQ.out).mono ?_
       rintro e' w15 ⟨rfl, hd⟩
       have HC15 := Aside0.mk (HC14.out.trans (hd.below.mono HC14.out.size))
       clear hd
       go_wp2_with fail
       go_meet
       case rel => exact ⟨rfl, HC15⟩
      ·have t2 : (e == 0) = false := beq_eq_false_iff_ne.2 he
       clear he
       go_wp2_with fail
       go_meet
       case rel => exact ⟨rfl, HC14⟩
     case rest =>
      obtain ⟨rfl, HCB⟩ := hcut
      have hb := HCB.out
      have HAGc := Aside0.mk (HAG.out.below hb)
      have HBGc := Aside0.mk (HBG.out.below hb)
      have HNc := Aside0.mk (HN10.out.below hb)
      have HRAc : Aside0 (Kd.R (Kd.raw 1) 28 wc wL.heap.size (fun k => k < S1 ∨ S2 ≤ k) (.slice Aa M ca) (ones T2)) := ⟨Kd.R_mono (Kd.R_below HRA10.out hb) (fun k hk => .inl hk)⟩
      have HHEc := Aside0.mk (HHE10.out.below hb)
      have HBEc := Aside0.mk (HBE.out.trans (hb.mono HBE.out.size))
      have HSc : Aside0 (S2 ≤ wc.heap.size) := ⟨by rw [HS10.out.2]; exact hb.size⟩
      clear hb HCB HAG HBG HN10 HRA10 HHE10 HAC HBC HBE HACL HBCL
      have HFR : Aside0 (∀ k, wc.heap.size ≤ k → k < S1 ∨ S2 ≤ k) := ⟨fun k hk => .inr (by have := HSc.out; omega)⟩
      have HLB : Aside0 (((ones T2).length + 1) * 24 ≤ 140737488355328) := ⟨by rw [ones_length, HTL.out.2.2]; have := HTL.out.1; omega⟩
      have HBWc : Aside0 (Below wL.heap.size wc wc) := ⟨Below.refl _ _⟩
      have HSWc : Aside0 (wL.heap.size ≤ wc.heap.size) := ⟨HBEc.out.size⟩
      go_wp2_with ((with_reducible refine gate_builtin (b := .append) (xs := #[.tmp 116, .tmp 118]) rfl ?_); at_builtin; refine Kd.R_append (Kd.raw 1) (w0 := wc) (W := wc) wL.heap.size rfl (.tmp 116) (.tmp 118) 25 28 (.slice none 0 0) 24 rfl Try.underlying25 info_ints rfl (by decide) (by omega) (.slice Aa M ca) (ones T2) [.slice An nx.length cn] [.slice An nx.length cn] (fun k => k < S1 ∨ S2 ≤ k) (fun _ => False) rfl rfl (one_raw _ rfl _ _ _) (fun _ hk => hk.elim) HFR.out HRAc.out HBWc.out HSWc.out HLB.out ?_)
      intro v12 w12 hR12 hb12 hg12 hat12
      clear hat12
      rw [← ones_snoc] at hR12
      obtain ⟨A12, c12, rfl⟩ := Kd.R_slice hR12
      have HLN : Aside0 ((T2 ++ [Value.slice An nx.length cn]).length = M + 1) := ⟨by rw [List.length_append, HTL.out.2.2]; rfl⟩
      obtain ⟨Ta, hTa⟩ : ∃ Ta, Ta = T2 ++ [Value.slice An nx.length cn] := ⟨_, rfl⟩
      rw [← hTa] at HLN hR12 ⊢
      rw [ones_length, HLN.out] at hR12 ⊢
      have hty := Kd.R_typed HRAc.out
      have HR12 := Aside0.mk hR12
      have HHE12 : Aside0 (Heaps w12 wL.heap.size w8.heap.size Ta (D ++ [nx])) := ⟨by rw [hTa]; exact (HHEc.out.grown hty hg12).app (HNc.out.grown hty hg12) HSL.out.1 HS8.out⟩
      have HAG12 := Aside0.mk (HAGc.out.grown HS8.out HS10.out.1 HRAc.out hg12)
      have HBG12 := Aside0.mk (HBGc.out.grown (by have := HS8.out; have := HS9.out; omega) (Nat.le_refl _) HRAc.out hg12)
      have HBE12 := Aside0.mk (HBEc.out.grown hg12 HBEc.out.size (fun k hk => Kd.R_base HRAc.out k hk))
      have HSW12 : Aside0 (wL.heap.size ≤ w12.heap.size) := ⟨HBE12.out.size⟩
      have HFR12 : Aside0 (∀ k, w12.heap.size ≤ k → k < S1 ∨ S2 ≤ k) := ⟨fun k hk => .inr (by have := HSc.out; have := hg12.size; omega)⟩
      have HZ12 : Aside0 (S2 ≤ w12.heap.size) := ⟨Nat.le_trans HSc.out hg12.size⟩
      have HRD := Aside0.mk (HAG12.out.reads (by have := HM.out.wl; have := HM.out.rl; omega))
      have HL2 : Aside0 ((M + 1 + want.length) * 24 ≤ 140737488355328) := ⟨by have := HTL.out.1; have := HM.out.wl; have := HM.out.rl; omega⟩
      clear hR12 hb12 hg12 hty hTa HFR HLB HBWc HSWc HRAc HHEc HNc HAGc HBGc HBEc
      go_wp2_with (at_builtin; refine raw_rows rfl _ _ 25 25 rfl Try.underlying25 Try.underlying25 info_ints wL.heap.size A12 (M + 1) c12 Ta Tr Ar want.length crr (fun k => k < S1 ∨ S2 ≤ k) HFR12.out rfl rfl HR12.out HRD.out HSW12.out HLN.out HL2.out ?_)
      intro A13 c13 w13 hR13 hg13
      have hty := Kd.R_typed HR12.out
      obtain ⟨Tc, hTc⟩ : ∃ Tc, Tc = Ta ++ Tr := ⟨_, rfl⟩
      rw [← hTc] at hR13
      have HR13 := Aside0.mk hR13
      have HHE13 : Aside0 (Heaps w13 wL.heap.size w9.heap.size Tc (D ++ [nx] ++ want)) := ⟨by rw [hTc]; exact (HHE12.out.grown hty hg13).app (HAG12.out.hp.grown hty hg13) (by have := HSL.out.1; have := HS8.out; omega) HS9.out⟩
      have HBG13 := Aside0.mk (HBG12.out.grown (by have := HS8.out; have := HS9.out; omega) (Nat.le_refl _) HR12.out hg13)
      have HBE13 := Aside0.mk (HBE12.out.grown hg13 HBE12.out.size (fun k hk => Kd.R_base HR12.out k hk))
      have HSW13 : Aside0 (wL.heap.size ≤ w13.heap.size) := ⟨HBE13.out.size⟩
      have HFR13 : Aside0 (∀ k, w13.heap.size ≤ k → k < S1 ∨ S2 ≤ k) := ⟨fun k hk => HFR12.out k (by have := hg13.size; omega)⟩
      have HLN13 : Aside0 (Tc.length = M + 1 + want.length) := ⟨by rw [hTc, List.length_append, HLN.out, HAG12.out.hp.len]⟩
      have HRD13 := Aside0.mk (HBG13.out.reads (by have := HM.out.bl; have := HM.out.rl; omega))
      have HL3 : Aside0 ((M + 1 + want.length + bk.length) * 24 ≤ 140737488355328) := ⟨by have := HTL.out.1; have := HM.out.wl; have := HM.out.bl; have := HM.out.rl; omega⟩
      have HZ13 : Aside0 (S2 ≤ w13.heap.size) := ⟨Nat.le_trans HZ12.out hg13.size⟩
      clear hR13 hg13 hty hTc HFR12 HRD HL2 HR12 HHE12 HAG12 HBG12 HBE12 HSW12
      go_wp2_with (at_builtin; go_loud (refine raw_rows rfl _ _ 25 26 rfl Try.underlying25 Try.underlying26 info_ints wL.heap.size A13 (M + 1 + want.length) c13 Tc Tb Ab bk.length cb (fun k => k < S1 ∨ S2 ≤ k) HFR13.out rfl rfl HR13.out HRD13.out HSW13.out HLN13.out HL3.out ?_))
      intro A14 c14 w14 hR14 hg14
      have hty := Kd.R_typed HR13.out
      obtain ⟨Td, hTd⟩ : ∃ Td, Td = Tc ++ Tb := ⟨_, rfl⟩
      rw [← hTd] at hR14
      have HR14 := Aside0.mk hR14
      have HHE14 : Aside0 (Heaps w14 wL.heap.size S2 Td (D ++ [nx] ++ want ++ bk)) := ⟨by rw [hTd]; exact (HHE13.out.grown hty hg14).app (HBG13.out.hp.grown hty hg14) (by have := HSL.out.1; have := HS8.out; have := HS9.out; omega) HS10.out.1⟩
      have HBE14 := Aside0.mk (HBE13.out.grown hg14 HBE13.out.size (fun k hk => Kd.R_base HR13.out k hk))
      have HLN14 : Aside0 (Td.length = M + 1 + want.length + bk.length) := ⟨by rw [hTd, List.length_append, HLN13.out, HBG13.out.hp.len]⟩
      have HZ14 : Aside0 (S2 ≤ w14.heap.size) := ⟨Nat.le_trans HZ13.out hg14.size⟩
      clear hR14 hg14 hty hTd HFR13 HRD13 HL3 HR13 HHE13 HBG13 HBE13 HSW13 HLN13 HZ13
      obtain ⟨S3, hS3⟩ : ∃ S3, S3 = w14.heap.size := ⟨_, rfl⟩
      have HS3 : Aside0 (S2 ≤ S3 ∧ S3 = w14.heap.size) := ⟨by rw [hS3]; exact HZ14.out, hS3⟩
      clear hS3
      go_wp2_with fail
      refine (rot_Canon.calls k Ai ci r cr w14 (Kd.C_below HIN.out HBE14.out) HINL.out HM.out.can).mono ?_
      rintro e' w15 ⟨v15, rfl, hS, hb⟩
      obtain ⟨Ac, cc, Tk, rfl, _, _, hGt⟩ := Got.of hS
      obtain ⟨S4, hS4⟩ : ∃ S4, S4 = w15.heap.size := ⟨_, rfl⟩
      rw [← hS4, ← HS3.out.2] at hGt
      have HCG := Aside0.mk hGt
      have HS4 : Aside0 (S3 ≤ S4 ∧ S4 = w15.heap.size) := ⟨by rw [HS3.out.2, hS4]; exact hb.size, hS4⟩
      have HR15 : Aside0 (Kd.R (Kd.raw 1) 28 w15 wL.heap.size (fun k => k < S3 ∨ S4 ≤ k) (.slice A14 (M + 1 + want.length + bk.length) c14) (ones Td)) := ⟨Kd.R_below (Kd.R_mono (Kd.R_bound HR14.out) (fun k hk => .inl (by rw [HS3.out.2]; exact hk.2.2.1))) hb⟩
      have HHE15 := Aside0.mk (HHE14.out.below hb)
      have HBE15 := Aside0.mk (HBE14.out.trans (hb.mono HBE14.out.size))
      have HSW15 : Aside0 (wL.heap.size ≤ w15.heap.size) := ⟨HBE15.out.size⟩
      have HFR15 : Aside0 (∀ k, w15.heap.size ≤ k → k < S3 ∨ S4 ≤ k) := ⟨fun k hk => .inr (by have := HS4.out; omega)⟩
      have HRD15 := Aside0.mk (HCG.out.reads (by have := HM.out.cl; have := HM.out.rl; omega))
      have HL4 : Aside0 ((M + 1 + want.length + bk.length + cr.length) * 24 ≤ 140737488355328) := ⟨by have := HTL.out.1; have := HM.out.wl; have := HM.out.bl; have := HM.out.cl; have := HM.out.rl; omega⟩
      clear hS hb hGt hS4 HR14 HHE14 HBE14
      go_wp2_with (at_builtin; refine raw_rows rfl _ _ 25 26 rfl Try.underlying25 Try.underlying26 info_ints wL.heap.size A14 (M + 1 + want.length + bk.length) c14 Td Tk Ac cr.length cc (fun k => k < S3 ∨ S4 ≤ k) HFR15.out rfl rfl HR15.out HRD15.out HSW15.out HLN14.out HL4.out ?_)
      intro A16 c16 w16 hR16 hg16
      have hty := Kd.R_typed HR15.out
      obtain ⟨Te, hTe⟩ : ∃ Te, Te = Td ++ Tk := ⟨_, rfl⟩
      rw [← hTe] at hR16
      have HR16 := Aside0.mk hR16
      have HHE16 : Aside0 (Heaps w16 wL.heap.size S4 Te (D ++ [nx] ++ want ++ bk ++ cr)) := ⟨by rw [hTe]; exact ((HHE15.out.grown hty hg16).wide (Nat.le_refl _) HS3.out.1).app (HCG.out.hp.grown hty hg16) (by have := HSL.out.1; have := HS8.out; have := HS9.out; have := HS10.out.1; have := HS3.out.1; omega) HS4.out.1⟩
      have HBE16 := Aside0.mk (HBE15.out.grown hg16 HBE15.out.size (fun k hk => Kd.R_base HR15.out k hk))
      have HLN16 : Aside0 (Te.length = M + 1 + want.length + bk.length + cr.length) := ⟨by rw [hTe, List.length_append, HLN14.out, HCG.out.hp.len]⟩
      obtain ⟨S5, hS5⟩ : ∃ S5, S5 = w16.heap.size := ⟨_, rfl⟩
      have HS5 : Aside0 (S4 ≤ S5 ∧ S5 = w16.heap.size) := ⟨by rw [hS5, HS4.out.2]; exact hg16.size, hS5⟩
      clear hR16 hg16 hty hTe hS5 HFR15 HRD15 HL4 HR15 HHE15 HCG HBE15 HSW15 HLN14 HZ14
      go_wp2_with fail
      refine (rot_Mirror.calls k Ai ci r mr w16 (Kd.C_below HIN.out HBE16.out) HINL.out HM.out.mir).mono ?_
      rintro e' w17 ⟨v17, rfl, hS, hb⟩
      obtain ⟨Ad, cd, Tm, rfl, _, _, hGt⟩ := Got.of hS
      obtain ⟨S6, hS6⟩ : ∃ S6, S6 = w17.heap.size := ⟨_, rfl⟩
      rw [← hS6, ← HS5.out.2] at hGt
      have HCG := Aside0.mk hGt
      have HS6 : Aside0 (S5 ≤ S6 ∧ S6 = w17.heap.size) := ⟨by rw [HS5.out.2, hS6]; exact hb.size, hS6⟩
      have HR17 : Aside0 (Kd.R (Kd.raw 1) 28 w17 wL.heap.size (fun k => k < S5 ∨ S6 ≤ k) (.slice A16 (M + 1 + want.length + bk.length + cr.length) c16) (ones Te)) := ⟨Kd.R_below (Kd.R_mono (Kd.R_bound HR16.out) (fun k hk => .inl (by rw [HS5.out.2]; exact hk.2.2.1))) hb⟩
      have HHE17 := Aside0.mk (HHE16.out.below hb)
      have HBE17 := Aside0.mk (HBE16.out.trans (hb.mono HBE16.out.size))
      have HSW17 : Aside0 (wL.heap.size ≤ w17.heap.size) := ⟨HBE17.out.size⟩
      have HFR17 : Aside0 (∀ k, w17.heap.size ≤ k → k < S5 ∨ S6 ≤ k) := ⟨fun k hk => .inr (by have := HS6.out; omega)⟩
      have HRD17 := Aside0.mk (HCG.out.reads (by have := HM.out.ml; have := HM.out.rl; omega))
      have HL5 : Aside0 ((M + 1 + want.length + bk.length + cr.length + mr.length) * 24 ≤ 140737488355328) := ⟨by have := HTL.out.1; have := HM.out.wl; have := HM.out.bl; have := HM.out.cl; have := HM.out.ml; have := HM.out.rl; omega⟩
      clear hS hb hGt hS6 HR16 HHE16 HBE16
      go_wp2_with (at_builtin; refine raw_rows rfl _ _ 25 26 rfl Try.underlying25 Try.underlying26 info_ints wL.heap.size A16 (M + 1 + want.length + bk.length + cr.length) c16 Te Tm Ad mr.length cd (fun k => k < S5 ∨ S6 ≤ k) HFR17.out rfl rfl HR17.out HRD17.out HSW17.out HLN16.out HL5.out ?_)
      intro A18 c18 w18 hR18 hg18
      have hty := Kd.R_typed HR17.out
      obtain ⟨Tf, hTf⟩ : ∃ Tf, Tf = Te ++ Tm := ⟨_, rfl⟩
      rw [← hTf] at hR18
      obtain ⟨Df, hDf⟩ : ∃ Df, Df = D ++ [nx] ++ want ++ bk ++ cr ++ mr := ⟨_, rfl⟩
      have HR18 : Aside0 (Kd.R (Kd.raw 1) 28 w18 wL.heap.size (fun _ => True) (.slice A18 (M + 1 + want.length + bk.length + cr.length + mr.length) c18) (ones Tf)) := ⟨Kd.R_mono hR18 (fun _ _ => trivial)⟩
      have HHE18 : Aside0 (Heaps w18 wL.heap.size w18.heap.size Tf Df) := ⟨by
       rw [hTf, hDf]
       exact (((HHE17.out.grown hty hg18).wide (Nat.le_refl _) HS5.out.1).app (HCG.out.hp.grown hty hg18) (by have := HSL.out.1; have := HS8.out; have := HS9.out; have := HS10.out.1; have := HS3.out.1; have := HS4.out.1; have := HS5.out.1; omega) HS6.out.1).wide (Nat.le_refl _) (by rw [HS6.out.2]; exact hg18.size)⟩
      have HBE18 := Aside0.mk (HBE17.out.grown hg18 HBE17.out.size (fun k hk => Kd.R_base HR17.out k hk))
      have HT18 : Aside0 (M + 1 + want.length + bk.length + cr.length + mr.length ≤ (q + 1) * 4200000 ∧ (∀ x ∈ Df, x.length ≤ 9000000) ∧ Tf.length = M + 1 + want.length + bk.length + cr.length + mr.length) := ⟨by have := HTL.out.1; have := HM.out.wl; have := HM.out.bl; have := HM.out.cl; have := HM.out.ml; have := HM.out.rl; omega, fun x hx => by
       rw [hDf] at hx
       rcases List.mem_append.1 hx with hx | hx
       ·rcases List.mem_append.1 hx with hx | hx
        ·rcases List.mem_append.1 hx with hx | hx
         ·rcases List.mem_append.1 hx with hx | hx
          ·rcases List.mem_append.1 hx with hx | hx
           ·exact HTL.out.2.1 x hx
           ·rw [List.mem_singleton.1 hx]; exact HM.out.nb
          ·exact HM.out.wb x hx
         ·exact HM.out.bb x hx
        ·exact HM.out.cb x hx
       ·exact HM.out.mb x hx, by rw [hTf, List.length_append, HLN16.out, HCG.out.hp.len]⟩
      clear hR18 hg18 hty hTf hDf HFR17 HRD17 HL5 HR17 HHE17 HCG HBE17 HSW17 HLN16 HS3 HS4 HS5 HS6
      obtain ⟨M18, hM18⟩ : ∃ M18, M18 = M + 1 + want.length + bk.length + cr.length + mr.length := ⟨_, rfl⟩
      rw [← hM18] at HR18 HT18 ⊢
      clear hM18
      go_wp2_with fail
      clear s1
      go_roundw
      case rel => exact ⟨q + 1, M18, A18, c18, Tf, Df, rfl, by go_num, by omega, HT18, HR18, HHE18, HBE18⟩
      case measure => simp [intOf]; omega
    ·obtain rfl : q = 6 := by omega
     have HDL : Aside0 (∀ j, j < M → (gl D j).length ≤ 16000000000000) := ⟨fun j hj => by
      have hl2 := HHE.out.len
      rw [HTL.out.2.2] at hl2
      have hj2 : j < D.length := by omega
      have h := HTL.out.2.1 (gl D j) (by
       unfold gl
       rw [List.getD_eq_getElem?_getD, List.getElem?_eq_getElem hj2]
       exact List.getElem_mem hj2)
      omega⟩
     have HGR := Aside0.mk (HHE.out.grid HRA.out (Nat.le_refl _) (Nat.le_refl _))
     have s1 : decide (((6 : Nat) : Int) < 6) = false := decide_eq_false (by omega)
     have s2 : decide ((6 : Int) < 6) = false := decide_eq_false (by omega)
     clear hq hlt
     go_wp2_with fail
     clear s1 s2
     refine (apart_calls Aa M ca T2 _ _ wL.heap.size wr.heap.size wr HGR.out HTL.out.2.2 (by have := HTL.out.1; omega) HDL.out (Nat.le_refl _)).mono ?_
     rintro e' w20 ⟨rfl, hFA⟩
     have HBE2 : Aside0 (Below wL.heap.size wL w20) := ⟨HBE.out.trans (hFA.below HBE.out.size (fun k hk => (HHE.out.pile.inP hk).1))⟩
     clear hFA HDL HGR HRA HHE HBE HTL
     have x1 : w20.cell? ⟨b, 1, none⟩ = some (.slice A l.length c) := heap_cell ((HBE2.out.block _ (lt_of HX.out)).trans HX.out) rfl
     go_wp2_with fail
     clear x1
     go_loopw [136] (fun y ws => ∃ (i : Nat), y = .int .i64 (i : Int) ∧ i ≤ l.length ∧ Aside0 (Below wL.heap.size wL ws)) (fun y _ => l.length - (intOf y).toNat)
     case atStart => exact ⟨0, rfl, by omega, HBE2⟩
     case round =>
      clear HBE2
      obtain ⟨i, rfl, hi, HBW⟩ := hrel
      by_cases hlt : i < l.length
      ·obtain ⟨adg, hgE, z1, z2⟩ := edge_at (Kd.C_below HE.out HBW.out) hlt
       subst hgE
       obtain ⟨ad, eA, z3, z4⟩ := edge_at (Kd.C_below (Kd.C_below HRR.out HBL2.out) HBW.out) hlt
       subst eA
       obtain ⟨a0, ha0⟩ : ∃ a0, a0 = (rd_T59 l (i : Int)).f0 := ⟨_, rfl⟩
       obtain ⟨a1, ha1⟩ : ∃ a1, a1 = (rd_T59 l (i : Int)).f1 := ⟨_, rfl⟩
       rw [← ha0] at z1 z3
       rw [← ha1] at z2 z4
       have x1 : wr.cell? ⟨b, 1, none⟩ = some (.slice (some ad) l.length c) := heap_cell ((HBW.out.block _ (lt_of HX.out)).trans HX.out) rfl
       have y1 : wr.cell? ⟨b7, 1, none⟩ = some (.slice (some adg) l.length c5) := heap_cell ((HBW.out.block _ (lt_of HH.out)).trans HH.out) rfl
       clear ha0 ha1
       go_wp2_with fail
       go_quiet (fail)
       go_wp2_with fail
       clear z1 z2 z3 z4 x1 y1
       go_roundw
       case rel => exact ⟨i + 1, by go_num, by omega, ⟨by first | exact HBW.out | exact below_drewN' HBW.out _⟩⟩
       case measure => simp [intOf]; omega
      ·obtain rfl : i = l.length := by omega
       clear hi hlt
       go_wp2_with fail
       go_loopw [153] (fun y ws => ∃ (j : Nat), y = .int .i64 (j : Int) ∧ j ≤ r.length ∧ Aside0 (Below wL.heap.size wL ws)) (fun y _ => r.length - (intOf y).toNat)
       case atStart => exact ⟨0, rfl, by omega, HBW⟩
       case round =>
        clear HBW
        obtain ⟨j, rfl, hj, HBW⟩ := hrel
        by_cases hlt : j < r.length
        ·obtain ⟨ad, D, cD, eA, hx0, hcD, hrow⟩ := row_at (Kd.C_below (Kd.C_below HR1.out HBL2.out) HBW.out) hlt
         have hjT : j < T.length := by rw [HTT.out]; exact hlt
         obtain ⟨adw, eW, hx1⟩ := whole_at HWH.out hjT
         obtain ⟨adi, eI, hx2⟩ := whole_at HII.out hjT
         have HX1 := Aside0.mk hx1
         replace hx2 := (HBW.out.cell (cell_lt hx2)).trans hx2
         obtain ⟨f2, f3, f4⟩ := row_full (HTAB.out.below HBW.out) hjT
         obtain ⟨row, hrw⟩ : ∃ row, row = gl r j := ⟨_, rfl⟩
         obtain ⟨g, hg⟩ : ∃ g, g = (tb T j).1 := ⟨_, rfl⟩
         obtain ⟨ct, hct⟩ : ∃ ct, ct = (tb T j).2 := ⟨_, rfl⟩
         unfold sl at HX1 hx2
         rw [← hrw] at hx0 hcD hrow hx2 f2 f3 f4 HX1
         rw [← hg, ← hct] at hx2 HX1
         rw [← hg] at f3 f4
         rw [← hct] at f2
         rw [Nat.add_zero] at hx2
         have halk := HM.out.alk j hlt
         rw [← hrw] at halk
         have hrl2 := HM.out.rb j hlt
         rw [← hrw] at hrl2
         have HRL2 := Aside0.mk hrl2
         subst eA eW eI
         have z1 := Kd.C_at2 f3 row.length (by omega)
         have z2 := Kd.C_at2 f3 (row.length + 1) (by omega)
         rw [(gi_end row (-71) (-72)).1] at z1
         rw [(gi_end row (-71) (-72)).2] at z2
         have Z1 := Aside0.mk z1
         have Z2 := Aside0.mk z2
         have F2 := Aside0.mk f2
         have F4 := Aside0.mk f4
         have HROW := Aside0.mk hrow
         have HCD := Aside0.mk hcD
         have HAL := Aside0.mk halk
         have hjr : j < r.length := hlt
         clear z1 z2 f2 f3 f4 hrow hcD halk hx1 hrl2 hrw hg hct hjT
         go_wp2_with fail
         clear hx0 hx2
         refine (tangramref11_Alike.calls k (some ⟨g, 0, none⟩) ct row D cD row true wr F4.out (by have := F2.out; omega) HROW.out HCD.out HAL.out).mono ?_
         rintro e' w22 ⟨rfl, hd⟩
         have hb := hd.below
         have HBW2 := Aside0.mk (HBW.out.trans (hb.mono HBW.out.size))
         have hx1 := (HBW2.out.cell (cell_lt HX1.out)).trans HX1.out
         have z1 := (hb.cell (cell_lt Z1.out)).trans Z1.out
         have z2 := (hb.cell (cell_lt Z2.out)).trans Z2.out
         obtain ⟨L1, hL1⟩ : ∃ L1, L1 = row.length + 1 := ⟨_, rfl⟩
         rw [← hL1] at z2
         have r1 : IntKind.i64.wrap ((row.length : Int) + 1) = (L1 : Int) := by have := HRL2.out; rw [IntWalk.i64_in _ (by omega)]; omega
         have r2 : ((L1 : Int)).toNat = L1 := Int.toNat_natCast _
         have hlen1 : row.length < row.length + 2 := by omega
         have hlen2 : L1 < row.length + 2 := by omega
         clear hL1 hb hd HBW
         go_wp2_with fail
         clear hx1 z1 z2 r1 r2 hlen1 hlen2
         go_roundw
         case rel => exact ⟨j + 1, by go_num, by omega, HBW2⟩
         case measure => simp [intOf]; omega
        ·obtain rfl : j = r.length := by omega
         clear hj hlt
         have HBF := Aside0.mk (HBL2.out.trans (HBW.out.mono HBL2.out.size))
         go_wp2_with fail
         go_ret
         exact ⟨by simp, HBF.out⟩
end Go.Proofs.Ytkkhhbegeboonaa.EJ
namespace Go.Proofs.Ytkkhhbegeboonaa.Rot
open Go.RowKit Go.Proofs.YtkkhhbegeboonaaW.PrintWords Go.Proofs.Ytkkhhbegeboonaa.Mem
set_option linter.unusedVariables false
set_option linter.unusedSimpArgs false
theorem nodup_subset {α : Type} [DecidableEq α] : ∀ (l m : List α), l.Nodup → (∀ x ∈ l, x ∈ m) → l.length ≤ m.length
 | [], m, _, _ => Nat.zero_le _
 | a :: l, m, hn, hs => by
  rw [List.nodup_cons] at hn
  have ha : a ∈ m := hs a (List.mem_cons_self ..)
  have h := nodup_subset l (m.erase a) hn.2 (fun x hx => by
   have hx2 := hs x (List.mem_cons_of_mem _ hx)
   exact (List.mem_erase_of_ne (fun e => hn.1 (by rw [← e]; exact hx))).2 hx2)
  rw [List.length_erase_of_mem ha] at h
  have := List.length_pos_of_mem ha
  simp; omega
theorem nodup_full {α : Type} [DecidableEq α] {l m : List α} (hn : l.Nodup) (hs : ∀ x ∈ l, x ∈ m) (hl : m.length ≤ l.length) {x : α} (hx : x ∈ m) : x ∈ l := by
 refine Decidable.byContradiction fun h => ?_
 have := nodup_subset (x :: l) m (List.nodup_cons.2 ⟨h, hn⟩) (fun y hy => by
  rcases List.mem_cons.1 hy with rfl | hy
  ·exact hx
  ·exact hs y hy)
 simp at this; omega
theorem leaves_iff {fr : List Int} {v h : Int} : leaves fr v h = true ↔ 0 ≤ h ∧ h < (fr.length : Int) ∧ gi fr h.toNat = v := by
 unfold leaves
 rw [Bool.and_eq_true, Bool.and_eq_true, decide_eq_true_eq, decide_eq_true_eq, beq_iff_eq]
theorem elems_ok {fr : List Int} {v : Int} : ∀ (row : List Int) (S S' : List Bool), S.length = fr.length → elems fr v row S = .ok S' →
  (∀ h ∈ row, leaves fr v h = true) ∧ row.Nodup ∧ (∀ h ∈ row, gb S h.toNat = false) ∧ S'.length = fr.length ∧ ∀ j : Nat, gb S' j = (gb S j || decide ((j : Int) ∈ row))
 | [], S, S', hl, h => by
  injection h with h
  subst h
  exact ⟨by simp, List.nodup_nil, by simp, hl, fun j => by simp⟩
 | h :: t, S, S', hl, he => by
  cases hlv : leaves fr v h with
  | false => rw [elems_cons_no hlv] at he; cases he
  | true =>
   cases hs : gb S h.toNat with
   | true => rw [elems_cons_twice hlv hs] at he; cases he
   | false =>
    rw [elems_cons hlv hs] at he
    obtain ⟨h1, h2, h3, h4, h5⟩ := elems_ok t _ S' (by rw [List.length_set]; exact hl) he
    obtain ⟨l1, l2, l3⟩ := leaves_iff.1 hlv
    have hne : ∀ x ∈ t, x ≠ h ∧ gb S x.toNat = false := by
     intro x hx
     have := h3 x hx
     rw [gb_set] at this
     by_cases e : h.toNat = x.toNat ∧ x.toNat < S.length
     ·rw [if_pos e] at this; cases this
     ·rw [if_neg e] at this
      refine ⟨fun e2 => e ⟨by rw [e2], by rw [e2, hl]; omega⟩, this⟩
    refine ⟨?_, ?_, ?_, h4, fun j => ?_⟩
    ·intro x hx
     rcases List.mem_cons.1 hx with rfl | hx
     ·exact hlv
     ·exact h1 x hx
    ·rw [List.nodup_cons]
     exact ⟨fun hx => (hne h hx).1 rfl, h2⟩
    ·intro x hx
     rcases List.mem_cons.1 hx with rfl | hx
     ·exact hs
     ·exact (hne x hx).2
    ·rw [h5, gb_set]
     by_cases e : h.toNat = j
     ·have e2 : h = (j : Int) := by omega
      rw [if_pos ⟨e, by rw [hl]; omega⟩]
      simp [e2]
     ·have e2 : ¬ (j : Int) = h := fun x => e (by omega)
      rw [if_neg (fun x => e x.1)]
      simp [e2]
theorem elems_mk {fr : List Int} {v : Int} : ∀ (row : List Int) (S : List Bool), S.length = fr.length → (∀ h ∈ row, leaves fr v h = true) → row.Nodup → (∀ h ∈ row, gb S h.toNat = false) → ∃ S', elems fr v row S = .ok S'
 | [], S, _, _, _, _ => ⟨S, rfl⟩
 | h :: t, S, hl, h1, h2, h3 => by
  rw [elems_cons (h1 h (List.mem_cons_self ..)) (h3 h (List.mem_cons_self ..))]
  rw [List.nodup_cons] at h2
  refine elems_mk t _ (by rw [List.length_set]; exact hl) (fun x hx => h1 x (List.mem_cons_of_mem _ hx)) h2.2 (fun x hx => ?_)
  rw [gb_set]
  obtain ⟨l1, _, _⟩ := leaves_iff.1 (h1 h (List.mem_cons_self ..))
  obtain ⟨m1, _, _⟩ := leaves_iff.1 (h1 x (List.mem_cons_of_mem _ hx))
  rw [if_neg]
  ·exact h3 x (List.mem_cons_of_mem _ hx)
  ·rintro ⟨e, _⟩
   exact h2.1 (by rw [show h = x by omega]; exact hx)
def RowOk (fr ds : List Int) (v : Nat) (row : List Int) : Prop := (∀ h ∈ row, leaves fr v h = true) ∧ row.Nodup ∧ (row.length : Int) = gi ds v
theorem rows_ok {fr ds : List Int} {r : List (List Int)} (d : Nat) : ∀ (v : Nat) (S : List Bool), v + d = r.length → S.length = fr.length → (∀ j : Nat, gb S j = true → ∃ u, u < v ∧ leaves fr u (j : Int) = true) →
  (rows fr ds v (r.drop v) S = (0, 0) ↔ ∀ u, v ≤ u → u < r.length → RowOk fr ds u (gl r u)) := by
 induction d with
 | zero =>
  intro v S hv hl hm
  rw [List.drop_of_length_le (by omega)]
  exact ⟨fun _ u h1 h2 => by omega, fun _ => rfl⟩
 | succ d ih =>
  intro v S hv hl hm
  have hlt : v < r.length := by omega
  rw [drop_row hlt, rows_cons]
  constructor
  ·intro h
   cases he : elems fr v (gl r v) S with
   | error e =>
    rw [he] at h
    have h2 : ((v : Int), e) = (0, 0) := h
    have := elems_err fr v _ S e he
    simp only [Prod.mk.injEq] at h2
    omega
   | ok S' =>
    rw [he, after_ok] at h
    obtain ⟨e1, e2, e3, e4, e5⟩ := elems_ok _ S S' hl he
    by_cases hd : ((gl r v).length : Int) = gi ds v
    ·rw [if_pos hd] at h
     have h3 := (ih (v + 1) S' (by omega) e4 (fun j hj => ?_)).1 h
     ·intro u hu1 hu2
      rcases Nat.eq_or_lt_of_le hu1 with rfl | hu
      ·exact ⟨e1, e2, hd⟩
      ·exact h3 u hu hu2
     ·rw [e5, Bool.or_eq_true, decide_eq_true_eq] at hj
      rcases hj with hj | hj
      ·obtain ⟨u, h1, h2⟩ := hm j hj
       exact ⟨u, by omega, h2⟩
      ·exact ⟨v, by omega, e1 _ hj⟩
    ·rw [if_neg hd] at h
     simp only [Prod.mk.injEq] at h
     omega
  ·intro h
   obtain ⟨h1, h2, h3⟩ := h v (Nat.le_refl _) hlt
   obtain ⟨S', he⟩ := elems_mk (gl r v) S hl h1 h2 (fun x hx => by
    cases hb : gb S x.toNat with
    | false => rfl
    | true =>
     obtain ⟨u, hu, hlu⟩ := hm _ hb
     obtain ⟨a1, a2, a3⟩ := leaves_iff.1 (h1 x hx)
     obtain ⟨b1, b2, b3⟩ := leaves_iff.1 hlu
     rw [Int.toNat_natCast] at b3
     omega)
   obtain ⟨e1, e2, e3, e4, e5⟩ := elems_ok _ S S' hl he
   rw [he, after_ok, if_pos h3]
   refine (ih (v + 1) S' (by omega) e4 (fun j hj => ?_)).2 (fun u hu1 hu2 => h u (by omega) hu2)
   rw [e5, Bool.or_eq_true, decide_eq_true_eq] at hj
   rcases hj with hj | hj
   ·obtain ⟨u, h1, h2⟩ := hm j hj
    exact ⟨u, by omega, h2⟩
   ·exact ⟨v, by omega, e1 _ hj⟩
theorem gb_none (n j : Nat) : gb (List.replicate n false) j = false := by
 unfold gb
 by_cases h : j < n <;> simp [List.getD_eq_getElem?_getD, List.getElem?_replicate, h]
theorem rows_none {fr ds : List Int} {r : List (List Int)} : rows fr ds 0 r (List.replicate fr.length false) = (0, 0) ↔ ∀ u, u < r.length → RowOk fr ds u (gl r u) := by
 have h := rows_ok (fr := fr) (ds := ds) (r := r) r.length 0 (List.replicate fr.length false) (by omega) (by simp) (fun j hj => by rw [gb_none] at hj; cases hj)
 rw [List.drop_zero] at h
 exact h.trans ⟨fun h u hu => h u (Nat.zero_le _) hu, fun h u _ hu => h u hu⟩
def leaving (fr : List Int) (v : Nat) : List Int := ((List.range fr.length).filter fun j => gi fr j == (v : Int)).map fun (j : Nat) => (j : Int)
theorem mem_leaving {fr : List Int} {v : Nat} {h : Int} : h ∈ leaving fr v ↔ leaves fr v h = true := by
 unfold leaving
 rw [leaves_iff, List.mem_map]
 constructor
 ·rintro ⟨j, hj, rfl⟩
  rw [List.mem_filter, List.mem_range, beq_iff_eq] at hj
  exact ⟨by omega, by omega, by rw [Int.toNat_natCast]; exact hj.2⟩
 ·rintro ⟨h1, h2, h3⟩
  exact ⟨h.toNat, by rw [List.mem_filter, List.mem_range, beq_iff_eq]; exact ⟨by omega, h3⟩, by omega⟩
theorem leaving_nodup (fr : List Int) (v : Nat) : (leaving fr v).Nodup := by
 unfold leaving
 refine List.pairwise_map.2 ((List.Pairwise.filter _ List.nodup_range).imp fun {a b} h e => h (by omega))
structure IsRot (fr : List Int) (n : Nat) (r : List (List Int)) : Prop where
 len : r.length = n
 nodup : ∀ v, v < n → (gl r v).Nodup
 mem : ∀ v, v < n → ∀ h, h ∈ gl r v ↔ leaves fr v h = true
theorem isRot_of {fr ds : List Int} {n : Nat} {r : List (List Int)} (hl : r.length = n) (hd : ∀ v, v < n → gi ds v = ((leaving fr v).length : Int)) : rows fr ds 0 r (List.replicate fr.length false) = (0, 0) ↔ IsRot fr n r := by
 rw [rows_none]
 constructor
 ·intro h
  refine ⟨hl, fun v hv => (h v (by omega)).2.1, fun v hv x => ⟨(h v (by omega)).1 x, fun hx => ?_⟩⟩
  obtain ⟨h1, h2, h3⟩ := h v (by omega)
  rw [hd v hv] at h3
  exact nodup_full h2 (fun y hy => mem_leaving.2 (h1 y hy)) (by omega) (mem_leaving.2 hx)
 ·intro h v hv
  have hv2 : v < n := by omega
  refine ⟨fun x hx => (h.mem v hv2 x).1 hx, h.nodup v hv2, ?_⟩
  rw [hd v hv2]
  have h1 := nodup_subset (gl r v) (leaving fr v) (h.nodup v hv2) (fun x hx => mem_leaving.2 ((h.mem v hv2 x).1 hx))
  have h2 := nodup_subset (leaving fr v) (gl r v) (leaving_nodup fr v) (fun x hx => (h.mem v hv2 x).2 (mem_leaving.1 hx))
  omega
end Go.Proofs.Ytkkhhbegeboonaa.Rot
namespace Go.Proofs.Ytkkhhbegeboonaa.PureV
open Go.RowKit Go.Proofs.YtkkhhbegeboonaaW.PrintWords Go.Proofs.YtkkhhbegeboonaaW.PrintLast Go.Proofs.YtkkhhbegeboonaaW.PrintMore Go.Proofs.Ytkkhhbegeboonaa.GAll
set_option linter.unusedVariables false
set_option linter.unusedSimpArgs false
abbrev E := S59
abbrev rdE := rd_T59
def okE (n : Int) (x : E) : Prop := 0 ≤ x.f0 ∧ x.f0 < x.f1 ∧ x.f1 < n
def lt (x y : E) : Prop := x.f0 < y.f0 ∨ (x.f0 = y.f0 ∧ x.f1 < y.f1)
def Ok (n : Int) (l : List E) (i : Nat) : Prop := okE n (rdE l (i : Nat)) ∧ (0 < i → lt (rdE l ((i - 1 : Nat) : Int)) (rdE l (i : Nat)))
def Good (n : Int) (l : List E) : Prop := 0 ≤ n ∧ n ≤ 1048576 ∧ l.length ≤ 4194304 ∧ ∀ i, i < l.length → Ok n l i
instance (n x) : Decidable (okE n x) := by unfold okE; infer_instance
instance (x y) : Decidable (lt x y) := by unfold lt; infer_instance
instance (n l i) : Decidable (Ok n l i) := by unfold Ok; infer_instance
theorem wadd {i : Nat} (h : i ≤ 9000000) : wrap64 ((i : Int) + 1) = ((i + 1 : Nat) : Int) := by rw [IntWalk.wrap64_in _ (by omega)]; omega
theorem pe_rd {l : List E} {i : Nat} (h : i < l.length) : Mem.pe (l.map fun x => (x.f0, x.f1)) i = ((rdE l (i : Nat)).f0, (rdE l (i : Nat)).f1) := by
 unfold Mem.pe rdE rd_T59
 simp [List.getD_eq_getElem?_getD, h]
theorem ok_at {n : Int} {l : List E} {i : Nat} (h : i < l.length) : ValH.OkAt n (l.map fun x => (x.f0, x.f1)) i ↔ Ok n l i := by
 unfold ValH.OkAt Ok okE lt ValH.okP ValH.ltP
 rw [pe_rd h, pe_rd (show i - 1 < l.length by omega), decide_eq_true_eq, decide_eq_true_eq]
theorem good_iff (n : Int) (l : List E) : ValH.goodB n (l.map fun x => (x.f0, x.f1)) = true ↔ Good n l := by
 rw [ValH.goodB_iff, List.length_map]
 unfold Good
 constructor
 ·rintro ⟨a, b, c, d⟩; exact ⟨a, b, c, fun i hi => (ok_at hi).1 (d i hi)⟩
 ·rintro ⟨a, b, c, d⟩; exact ⟨a, b, c, fun i hi => (ok_at hi).2 (d i hi)⟩
theorem valid (n : Int) (l : List E) : ∃ b : Bool, Ev (fun k => simple_Valid.f k n l) b ∧ Ev (fun k => tangramref03_Valid.f k n l) b ∧ (b = true ↔ Good n l) := ⟨_, Ev.now _, Ev.now _, good_iff n l⟩
end Go.Proofs.Ytkkhhbegeboonaa.PureV
