/- DERIVED. Texts of this seat, one behind the other: lemmas and walks that the statement CanonMatches needs. No condition. -/
import Derived.Test.YteeihjpnhjnknaaCCanonMatchesc
import Derived.Test.YteeihjpnhjnknaaCCanonMatchesb
import Derived.Test.YteeihjpnhjnknaaCCanonMatchesa
import Derived.SizedLaws
import Derived.ChangeSlices
import Derived.ProofKit
import Derived.OpenShut
import Derived.ChangeOld
import Derived.Deep.Slices
namespace Go.Proofs.Yteeihjpnhjnknaa.GAll
open Go.RowKit Go.Proofs.YteeihjpnhjnknaaW.PrintWords Go.Proofs.YteeihjpnhjnknaaW.PrintLast Go.Proofs.YteeihjpnhjnknaaW.PrintMore
attribute [local go_sem] max2_int min2_int max_two min_two max_three min_three max_four min_four   -- for this text's walks alone
set_option linter.unusedVariables false
set_option linter.unusedSimpArgs false
def canon_less_int.l0 : Nat → List Int → List Int → Int → Int → Option (Bool)
 | 0, _, _, _, _ => none
 | k + 1, x0, x1, x7, x8 => if x8 < x7 then (if x8 ≥ (x1.length : Int) then (some false) else (if 0 ≤ x8 then (if x8 < (x0.length : Int) then (if x8 < (x1.length : Int) then (if (rd x0 x8) = (rd x1 x8) then (canon_less_int.l0 k x0 x1 x7 (wrap64 (x8 + 1))) else (some (decide ((rd x0 x8) < (rd x1 x8))))) else (none)) else (none)) else (none))) else (some (decide ((x0.length : Int) < (x1.length : Int))))
def canon_less_int.f (k : Nat) (l0 : List Int) (l1 : List Int) : Option (Bool) := canon_less_int.l0 k l0 l1 (l0.length : Int) 0
theorem canon_less_int.mono_l : ∀ k, (∀ y0 y1 y2 y3, LeO (canon_less_int.l0 k y0 y1 y2 y3) (canon_less_int.l0 (k + 1) y0 y1 y2 y3))
 | 0 => fun _ _ _ _ r h => by simp [canon_less_int.l0] at h
 | k + 1 => by
   have ih0 := canon_less_int.mono_l k
   · intro y0 y1 y2 y3
     unfold canon_less_int.l0
     repeat' first
     | (with_reducible exact ih0 _ _ _ _)
     | (with_reducible exact LeO.refl _)
     | (with_reducible exact LeO.none _)
     | (with_reducible refine LeO.ite ?_ ?_)
     | (with_reducible refine LeO.bind ?_ (fun _ => ?_))
     | exact ih0 _ _ _ _
     | exact LeO.none _
     | refine LeO.ite ?_ ?_
     | refine LeO.bind ?_ (fun _ => ?_)
theorem canon_less_int.mono : ∀ a0 a1 k, LeO (canon_less_int.f k a0 a1) (canon_less_int.f (k + 1) a0 a1) := by
 intro a0 a1 k
 have ih0 := canon_less_int.mono_l k
 unfold canon_less_int.f
 repeat' first
     | (with_reducible exact ih0 _ _ _ _)
     | (with_reducible exact LeO.refl _)
     | (with_reducible exact LeO.none _)
     | (with_reducible refine LeO.ite ?_ ?_)
     | (with_reducible refine LeO.bind ?_ (fun _ => ?_))
     | exact ih0 _ _ _ _
     | exact LeO.none _
     | refine LeO.ite ?_ ?_
     | refine LeO.bind ?_ (fun _ => ?_)
set_option maxHeartbeats 8000000 in
set_option maxRecDepth 100000 in
theorem canon_less_int.calls (k : Nat) (A0 : Option Addr) (c0 : Nat) (l0 : List Int) (A1 : Option Addr) (c1 : Nat) (l1 : List Int) (r : Bool) (w : World) (hr0 : Kd.C (Kd.int .i64) w A0 l0.length l0) (hc0 : l0.length ≤ c0) (hr1 : Kd.C (Kd.int .i64) w A1 l1.length l1) (hc1 : l1.length ≤ c1) (h : canon_less_int.f k l0 l1 = some r) :
   Calls Try.prog 42 #[.slice A0 l0.length c0, .slice A1 l1.length c1] w fun e w' => e = .returned (.bool r) ∧ Drawn0 w w' := by
 have HR0 := Aside0.mk hr0
 have HC0 := Aside0.mk hc0
 clear hr0 hc0
 have HR1 := Aside0.mk hr1
 have HC1 := Aside0.mk hc1
 clear hr1 hc1
 have H : (canon_less_int.l0 k l0 l1 (l0.length : Int) 0) = some r := h
 clear h
 have H' := Aside0.mk H
 clear H
 go_enter Try.func42, Try.ntmps42
 go_wp2
 repeat (go_quiet (fail); try go_wp2)
 go_loopg [8] k (fun kq v8 w' => ∃ (x8_1 : Int), v8 = .int .i64 x8_1 ∧ Aside0 (canon_less_int.l0 kq l0 l1 (l0.length : Int) x8_1 = some r) ∧ Aside0 (kq ≤ k) ∧ Drawn0 w w')
 case atStart => exact ⟨(0), (by first | rfl | (simp; done) | (simp [*]; done)), H', ⟨Nat.le_refl _⟩, by repeat (first | exact Drawn0.refl _ | apply Drawn0.step)⟩
 case round =>
   clear H'
   try clear c1
   try clear p2
   obtain ⟨x8_1, rfl, HA, HK1, ⟨m1, rfl⟩⟩ := hrel
   cases gk with
   | zero => exact absurd HA.out (by simp [canon_less_int.l0])
   | succ k1 =>
     have H := HA.out
     clear HA
     simp only [canon_less_int.l0] at H
     by_cases c3 : x8_1 < (l0.length : Int)
     · rw [if_pos c3] at H
       have c3b0 : decide (x8_1 < (l0.length : Int)) = true := decide_eq_true c3
       clear c3
       by_cases c4 : x8_1 ≥ (l1.length : Int)
       · rw [if_pos c4] at H
         have c4b0 : decide ((l1.length : Int) ≤ x8_1) = true := decide_eq_true c4
         clear c4
         obtain rfl := Option.some.inj H
         go_wp2
         repeat (go_quiet (fail); try go_wp2)
         go_ret
         exact ⟨by first | rfl | (simp; done) | (simp [*]; done), by repeat (first | exact Drawn0.refl _ | apply Drawn0.step)⟩
       · rw [if_neg c4] at H
         have c4b0 : decide ((l1.length : Int) ≤ x8_1) = false := decide_eq_false c4
         clear c4
         by_cases c5 : 0 ≤ x8_1
         · rw [if_pos c5] at H
           have c5b0 : decide (0 ≤ x8_1) = true := decide_eq_true c5
           clear c5
           by_cases c6 : x8_1 < (l0.length : Int)
           · rw [if_pos c6] at H
             have c6b0 : decide (x8_1 < (l0.length : Int)) = true := decide_eq_true c6
             clear c6
             by_cases c7 : x8_1 < (l1.length : Int)
             · rw [if_pos c7] at H
               have c7b0 : decide (x8_1 < (l1.length : Int)) = true := decide_eq_true c7
               clear c7
               by_cases c8 : (rd l0 x8_1) = (rd l1 x8_1)
               · rw [if_pos c8] at H
                 have c8b0 : ((rd l0 x8_1) == (rd l1 x8_1)) = true := beq_iff_eq.mpr c8
                 have c8b1 : ((rd l0 x8_1) != (rd l1 x8_1)) = false := bne_eq_false_iff_eq.mpr c8
                 clear c8
                 have H' := Aside0.mk H
                 clear H
                 have p114 : 0 ≤ (x8_1 : Int) := of_decide_eq_true (by first | (with_reducible assumption) | assumption)
                 have q114 : x8_1 < (l0.length : Int) := of_decide_eq_true (by first | (with_reducible assumption) | assumption)
                 obtain ⟨ad114, e114, hx114_0⟩ := Kd.at_int HR0.out x8_1 p114 q114
                 cases e114
                 replace p114 := eq_true p114
                 replace q114 := eq_true q114
                 have p115 : 0 ≤ (x8_1 : Int) := of_decide_eq_true (by first | (with_reducible assumption) | assumption)
                 have q115 : x8_1 < (l1.length : Int) := of_decide_eq_true (by first | (with_reducible assumption) | assumption)
                 obtain ⟨ad115, e115, hx115_0⟩ := Kd.at_int HR1.out x8_1 p115 q115
                 cases e115
                 replace p115 := eq_true p115
                 replace q115 := eq_true q115
                 go_wp2
                 repeat (go_quiet (fail); try go_wp2)
                 go_roundg k1
                 case measure => have := HK1.out; omega
                 case rel => exact ⟨(wrap64 (x8_1 + 1)), (by first | rfl | (simp; done) | (simp [*]; done)), H', ⟨by have := HK1.out; omega⟩, by repeat (first | exact Drawn0.refl _ | apply Drawn0.step)⟩
               · rw [if_neg c8] at H
                 have c8b0 : ((rd l0 x8_1) == (rd l1 x8_1)) = false := beq_eq_false_iff_ne.mpr c8
                 have c8b1 : ((rd l0 x8_1) != (rd l1 x8_1)) = true := bne_iff_ne.mpr c8
                 obtain rfl := Option.some.inj H
                 have p114 : 0 ≤ (x8_1 : Int) := of_decide_eq_true (by first | (with_reducible assumption) | assumption)
                 have q114 : x8_1 < (l0.length : Int) := of_decide_eq_true (by first | (with_reducible assumption) | assumption)
                 obtain ⟨ad114, e114, hx114_0⟩ := Kd.at_int HR0.out x8_1 p114 q114
                 cases e114
                 replace p114 := eq_true p114
                 replace q114 := eq_true q114
                 have p115 : 0 ≤ (x8_1 : Int) := of_decide_eq_true (by first | (with_reducible assumption) | assumption)
                 have q115 : x8_1 < (l1.length : Int) := of_decide_eq_true (by first | (with_reducible assumption) | assumption)
                 obtain ⟨ad115, e115, hx115_0⟩ := Kd.at_int HR1.out x8_1 p115 q115
                 cases e115
                 replace p115 := eq_true p115
                 replace q115 := eq_true q115
                 have p116 : 0 ≤ (x8_1 : Int) := of_decide_eq_true (by first | (with_reducible assumption) | assumption)
                 have q116 : x8_1 < (l0.length : Int) := of_decide_eq_true (by first | (with_reducible assumption) | assumption)
                 obtain ⟨ad116, e116, hx116_0⟩ := Kd.at_int HR0.out x8_1 p116 q116
                 obtain rfl : ad114 = ad116 := (by injection e116)
                 replace p116 := eq_true p116
                 replace q116 := eq_true q116
                 have p117 : 0 ≤ (x8_1 : Int) := of_decide_eq_true (by first | (with_reducible assumption) | assumption)
                 have q117 : x8_1 < (l1.length : Int) := of_decide_eq_true (by first | (with_reducible assumption) | assumption)
                 obtain ⟨ad117, e117, hx117_0⟩ := Kd.at_int HR1.out x8_1 p117 q117
                 obtain rfl : ad115 = ad117 := (by injection e117)
                 replace p117 := eq_true p117
                 replace q117 := eq_true q117
                 go_wp2
                 repeat (go_quiet (fail); try go_wp2)
                 go_ret
                 exact ⟨by first | rfl | (simp; done) | (simp [*]; done), by repeat (first | exact Drawn0.refl _ | apply Drawn0.step)⟩
             · rw [if_neg c7] at H
               exact absurd H (by simp)
           · rw [if_neg c6] at H
             exact absurd H (by simp)
         · rw [if_neg c5] at H
           exact absurd H (by simp)
     · rw [if_neg c3] at H
       have c3b0 : decide (x8_1 < (l0.length : Int)) = false := decide_eq_false c3
       clear c3
       obtain rfl := Option.some.inj H
       go_wp2
       repeat (go_quiet (fail); try go_wp2)
       go_ret
       exact ⟨by first | rfl | (simp; done) | (simp [*]; done), by repeat (first | exact Drawn0.refl _ | apply Drawn0.step)⟩
end Go.Proofs.Yteeihjpnhjnknaa.GAll
namespace Go.Proofs.Yteeihjpnhjnknaa.GAll
open Go.RowKit Go.Proofs.YteeihjpnhjnknaaW.PrintWords Go.Proofs.YteeihjpnhjnknaaW.PrintLast Go.Proofs.YteeihjpnhjnknaaW.PrintMore
attribute [local go_sem] max2_int min2_int max_two min_two max_three min_three max_four min_four   -- for this text's walks alone
set_option linter.unusedVariables false
set_option linter.unusedSimpArgs false
mutual
def tangramref21_Less.l0 : Nat → List Int → List Int → Int → Option (Bool)
 | 0, _, _, _ => none
 | k + 1, x0, x1, x5 => if x5 < (x0.length : Int) then (tangramref21_Less.j1 k x0 x1 x5 (decide (x5 < (x1.length : Int)))) else (tangramref21_Less.j1 k x0 x1 x5 false)
def tangramref21_Less.j1 : Nat → List Int → List Int → Int → Bool → Option (Bool)
 | 0, _, _, _, _ => none
 | k + 1, x0, x1, x5, x15 => if x15 = true then (if 0 ≤ x5 then (if x5 < (x0.length : Int) then (if x5 < (x1.length : Int) then (if (rd x0 x5) = (rd x1 x5) then (tangramref21_Less.l0 k x0 x1 (wrap64 (x5 + 1))) else (some (decide ((rd x0 x5) < (rd x1 x5))))) else (none)) else (none)) else (none)) else (some (decide ((x0.length : Int) < (x1.length : Int))))
end
def tangramref21_Less.f (k : Nat) (l0 : List Int) (l1 : List Int) : Option (Bool) := tangramref21_Less.l0 k l0 l1 0
theorem tangramref21_Less.mono_l : ∀ k, (∀ y0 y1 y2, LeO (tangramref21_Less.l0 k y0 y1 y2) (tangramref21_Less.l0 (k + 1) y0 y1 y2)) ∧ (∀ y0 y1 y2 y3, LeO (tangramref21_Less.j1 k y0 y1 y2 y3) (tangramref21_Less.j1 (k + 1) y0 y1 y2 y3))
 | 0 => ⟨fun _ _ _ r h => by simp [tangramref21_Less.l0] at h, fun _ _ _ _ r h => by simp [tangramref21_Less.j1] at h⟩
 | k + 1 => by
   obtain ⟨ih0, ih1⟩ := tangramref21_Less.mono_l k
   refine ⟨?_, ?_⟩
   · intro y0 y1 y2
     unfold tangramref21_Less.l0
     repeat' first
     | (with_reducible exact ih0 _ _ _)
     | (with_reducible exact ih1 _ _ _ _)
     | (with_reducible exact LeO.refl _)
     | (with_reducible exact LeO.none _)
     | (with_reducible refine LeO.ite ?_ ?_)
     | (with_reducible refine LeO.bind ?_ (fun _ => ?_))
     | exact ih0 _ _ _
     | exact ih1 _ _ _ _
     | exact LeO.none _
     | refine LeO.ite ?_ ?_
     | refine LeO.bind ?_ (fun _ => ?_)
   · intro y0 y1 y2 y3
     unfold tangramref21_Less.j1
     repeat' first
     | (with_reducible exact ih0 _ _ _)
     | (with_reducible exact ih1 _ _ _ _)
     | (with_reducible exact LeO.refl _)
     | (with_reducible exact LeO.none _)
     | (with_reducible refine LeO.ite ?_ ?_)
     | (with_reducible refine LeO.bind ?_ (fun _ => ?_))
     | exact ih0 _ _ _
     | exact ih1 _ _ _ _
     | exact LeO.none _
     | refine LeO.ite ?_ ?_
     | refine LeO.bind ?_ (fun _ => ?_)
theorem tangramref21_Less.mono : ∀ a0 a1 k, LeO (tangramref21_Less.f k a0 a1) (tangramref21_Less.f (k + 1) a0 a1) := by
 intro a0 a1 k
 obtain ⟨ih0, ih1⟩ := tangramref21_Less.mono_l k
 unfold tangramref21_Less.f
 repeat' first
     | (with_reducible exact ih0 _ _ _)
     | (with_reducible exact ih1 _ _ _ _)
     | (with_reducible exact LeO.refl _)
     | (with_reducible exact LeO.none _)
     | (with_reducible refine LeO.ite ?_ ?_)
     | (with_reducible refine LeO.bind ?_ (fun _ => ?_))
     | exact ih0 _ _ _
     | exact ih1 _ _ _ _
     | exact LeO.none _
     | refine LeO.ite ?_ ?_
     | refine LeO.bind ?_ (fun _ => ?_)
set_option maxHeartbeats 8000000 in
set_option maxRecDepth 100000 in
theorem tangramref21_Less.calls (k : Nat) (A0 : Option Addr) (c0 : Nat) (l0 : List Int) (A1 : Option Addr) (c1 : Nat) (l1 : List Int) (r : Bool) (w : World) (hr0 : Kd.C (Kd.int .i64) w A0 l0.length l0) (hc0 : l0.length ≤ c0) (hr1 : Kd.C (Kd.int .i64) w A1 l1.length l1) (hc1 : l1.length ≤ c1) (h : tangramref21_Less.f k l0 l1 = some r) :
   Calls Try.prog 22 #[.slice A0 l0.length c0, .slice A1 l1.length c1] w fun e w' => e = .returned (.bool r) ∧ Drawn0 w w' := by
 have HR0 := Aside0.mk hr0
 have HC0 := Aside0.mk hc0
 clear hr0 hc0
 have HR1 := Aside0.mk hr1
 have HC1 := Aside0.mk hc1
 clear hr1 hc1
 have H : (tangramref21_Less.l0 k l0 l1 0) = some r := h
 clear h
 have H' := Aside0.mk H
 clear H
 go_enter Try.func22, Try.ntmps22
 go_wp2
 repeat (go_quiet (fail); try go_wp2)
 go_loopg [5] k (fun kq v5 w' => ∃ (x5_1 : Int), v5 = .int .i64 x5_1 ∧ Aside0 (tangramref21_Less.l0 kq l0 l1 x5_1 = some r) ∧ Aside0 (kq ≤ k) ∧ Drawn0 w w')
 case atStart => exact ⟨(0), (by first | rfl | (simp; done) | (simp [*]; done)), H', ⟨Nat.le_refl _⟩, by repeat (first | exact Drawn0.refl _ | apply Drawn0.step)⟩
 case round =>
   clear H'
   try clear c1
   try clear c2
   try clear p2
   obtain ⟨x5_1, rfl, HA, HK1, ⟨m1, rfl⟩⟩ := hrel
   cases gk with
   | zero => exact absurd HA.out (by simp [tangramref21_Less.l0])
   | succ k1 =>
     have H := HA.out
     clear HA
     simp only [tangramref21_Less.l0] at H
     have HC3 := Aside0.mk H
     clear H
     go_upto_region 2 with (fail)
     repeat (go_quiet (fail); go_upto_region 2 with (fail))
     go_cut [15] (fun v15 wc => ∃ (kq : Nat) (x15_2 : Bool), v15 = .bool x15_2 ∧ Aside0 (tangramref21_Less.j1 kq l0 l1 x5_1 x15_2 = some r) ∧ Aside0 (kq ≤ k1) ∧ Drawn0 w wc)
     case first =>
       have H := HC3.out
       clear HC3
       by_cases c4 : x5_1 < (l0.length : Int)
       · rw [if_pos c4] at H
         have c4b0 : decide (x5_1 < (l0.length : Int)) = true := decide_eq_true c4
         clear c4
         (first | rw [c4b0] | (simp only [i64_w, i32_w]; rw [c4b0]) | skip)
         have H' := Aside0.mk H
         clear H
         go_wp2
         repeat (go_quiet (fail); try go_wp2)
         go_meet
         case rel => exact ⟨_, (decide (x5_1 < (l1.length : Int))), (by first | rfl | (simp; done) | (simp [*]; done)), H', ⟨by have := HK1.out; first | omega | exact Nat.le_refl _⟩, by repeat (first | exact Drawn0.refl _ | apply Drawn0.step)⟩
       · rw [if_neg c4] at H
         have c4b0 : decide (x5_1 < (l0.length : Int)) = false := decide_eq_false c4
         clear c4
         (first | rw [c4b0] | (simp only [i64_w, i32_w]; rw [c4b0]) | skip)
         have H' := Aside0.mk H
         clear H
         go_wp2
         repeat (go_quiet (fail); try go_wp2)
         go_meet
         case rel => exact ⟨_, (false), (by first | rfl | (simp; done) | (simp [*]; done)), H', ⟨by have := HK1.out; first | omega | exact Nat.le_refl _⟩, by repeat (first | exact Drawn0.refl _ | apply Drawn0.step)⟩
     case rest =>
       clear HC3
       try clear c1
       try clear c2
       try clear p2
       try clear c4
       try clear c4b0
       try clear p2
       obtain ⟨kq, x15_2, rfl, HA, HJ2, ⟨mc2, rfl⟩⟩ := hcut
       cases kq with
       | zero => exact absurd HA.out (by simp [tangramref21_Less.j1])
       | succ kj2 =>
         have H := HA.out
         clear HA
         simp only [tangramref21_Less.j1] at H
         by_cases c5 : x15_2 = true
         · subst c5
           have H1 : (if 0 ≤ x5_1 then (if x5_1 < (l0.length : Int) then (if x5_1 < (l1.length : Int) then (if (rd l0 x5_1) = (rd l1 x5_1) then (tangramref21_Less.l0 kj2 l0 l1 (wrap64 (x5_1 + 1))) else (some (decide ((rd l0 x5_1) < (rd l1 x5_1))))) else (none)) else (none)) else (none)) = some r := by rw [if_pos rfl] at H; exact H
           clear H
           have H := H1
           clear H1
           by_cases c6 : 0 ≤ x5_1
           · rw [if_pos c6] at H
             have c6b0 : decide (0 ≤ x5_1) = true := decide_eq_true c6
             clear c6
             by_cases c7 : x5_1 < (l0.length : Int)
             · rw [if_pos c7] at H
               have c7b0 : decide (x5_1 < (l0.length : Int)) = true := decide_eq_true c7
               clear c7
               by_cases c8 : x5_1 < (l1.length : Int)
               · rw [if_pos c8] at H
                 have c8b0 : decide (x5_1 < (l1.length : Int)) = true := decide_eq_true c8
                 clear c8
                 by_cases c9 : (rd l0 x5_1) = (rd l1 x5_1)
                 · rw [if_pos c9] at H
                   have c9b0 : ((rd l0 x5_1) == (rd l1 x5_1)) = true := beq_iff_eq.mpr c9
                   have c9b1 : ((rd l0 x5_1) != (rd l1 x5_1)) = false := bne_eq_false_iff_eq.mpr c9
                   clear c9
                   have H' := Aside0.mk H
                   clear H
                   have p177 : 0 ≤ (x5_1 : Int) := of_decide_eq_true (by first | (with_reducible assumption) | assumption)
                   have q177 : x5_1 < (l0.length : Int) := of_decide_eq_true (by first | (with_reducible assumption) | assumption)
                   obtain ⟨ad177, e177, hx177_0⟩ := Kd.at_int HR0.out x5_1 p177 q177
                   cases e177
                   replace p177 := eq_true p177
                   replace q177 := eq_true q177
                   have p178 : 0 ≤ (x5_1 : Int) := of_decide_eq_true (by first | (with_reducible assumption) | assumption)
                   have q178 : x5_1 < (l1.length : Int) := of_decide_eq_true (by first | (with_reducible assumption) | assumption)
                   obtain ⟨ad178, e178, hx178_0⟩ := Kd.at_int HR1.out x5_1 p178 q178
                   cases e178
                   replace p178 := eq_true p178
                   replace q178 := eq_true q178
                   go_wp2
                   repeat (go_quiet (fail); try go_wp2)
                   go_roundg kj2
                   case measure => have := HK1.out; have := HJ2.out; omega
                   case rel => exact ⟨(wrap64 (x5_1 + 1)), (by first | rfl | (simp; done) | (simp [*]; done)), H', ⟨by have := HK1.out; have := HJ2.out; omega⟩, by repeat (first | exact Drawn0.refl _ | apply Drawn0.step)⟩
                 · rw [if_neg c9] at H
                   have c9b0 : ((rd l0 x5_1) == (rd l1 x5_1)) = false := beq_eq_false_iff_ne.mpr c9
                   have c9b1 : ((rd l0 x5_1) != (rd l1 x5_1)) = true := bne_iff_ne.mpr c9
                   obtain rfl := Option.some.inj H
                   have p177 : 0 ≤ (x5_1 : Int) := of_decide_eq_true (by first | (with_reducible assumption) | assumption)
                   have q177 : x5_1 < (l0.length : Int) := of_decide_eq_true (by first | (with_reducible assumption) | assumption)
                   obtain ⟨ad177, e177, hx177_0⟩ := Kd.at_int HR0.out x5_1 p177 q177
                   cases e177
                   replace p177 := eq_true p177
                   replace q177 := eq_true q177
                   have p178 : 0 ≤ (x5_1 : Int) := of_decide_eq_true (by first | (with_reducible assumption) | assumption)
                   have q178 : x5_1 < (l1.length : Int) := of_decide_eq_true (by first | (with_reducible assumption) | assumption)
                   obtain ⟨ad178, e178, hx178_0⟩ := Kd.at_int HR1.out x5_1 p178 q178
                   cases e178
                   replace p178 := eq_true p178
                   replace q178 := eq_true q178
                   have p179 : 0 ≤ (x5_1 : Int) := of_decide_eq_true (by first | (with_reducible assumption) | assumption)
                   have q179 : x5_1 < (l0.length : Int) := of_decide_eq_true (by first | (with_reducible assumption) | assumption)
                   obtain ⟨ad179, e179, hx179_0⟩ := Kd.at_int HR0.out x5_1 p179 q179
                   obtain rfl : ad177 = ad179 := (by injection e179)
                   replace p179 := eq_true p179
                   replace q179 := eq_true q179
                   have p180 : 0 ≤ (x5_1 : Int) := of_decide_eq_true (by first | (with_reducible assumption) | assumption)
                   have q180 : x5_1 < (l1.length : Int) := of_decide_eq_true (by first | (with_reducible assumption) | assumption)
                   obtain ⟨ad180, e180, hx180_0⟩ := Kd.at_int HR1.out x5_1 p180 q180
                   obtain rfl : ad178 = ad180 := (by injection e180)
                   replace p180 := eq_true p180
                   replace q180 := eq_true q180
                   go_wp2
                   repeat (go_quiet (fail); try go_wp2)
                   go_ret
                   exact ⟨by first | rfl | (simp; done) | (simp [*]; done), by repeat (first | exact Drawn0.refl _ | apply Drawn0.step)⟩
               · rw [if_neg c8] at H
                 exact absurd H (by simp)
             · rw [if_neg c7] at H
               exact absurd H (by simp)
           · rw [if_neg c6] at H
             exact absurd H (by simp)
         · replace c5 := Bool.eq_false_iff.mpr c5
           subst c5
           have H1 : (some (decide ((l0.length : Int) < (l1.length : Int)))) = some r := by rw [if_neg (show ¬ (false = true) by decide)] at H; exact H
           clear H
           have H := H1
           clear H1
           obtain rfl := Option.some.inj H
           go_wp2
           repeat (go_quiet (fail); try go_wp2)
           go_ret
           exact ⟨by first | rfl | (simp; done) | (simp [*]; done), by repeat (first | exact Drawn0.refl _ | apply Drawn0.step)⟩
end Go.Proofs.Yteeihjpnhjnknaa.GAll
namespace Go.Proofs.Yteeihjpnhjnknaa.Rot
open Go.RowKit Go.Proofs.YteeihjpnhjnknaaW.PrintWords Go.Proofs.YteeihjpnhjnknaaW.PrintLast Go.Proofs.YteeihjpnhjnknaaW.PrintMore Go.Proofs.Yteeihjpnhjnknaa.GAll Go.Proofs.Yteeihjpnhjnknaa.Mem Go.Proofs.Yteeihjpnhjnknaa.Seen
set_option linter.unusedVariables false
set_option linter.unusedSimpArgs false
def ltB : List Int → List Int → Bool
 | [], [] => false
 | [], _ :: _ => true
 | _ :: _, [] => false
 | a :: x, b :: y => if a = b then ltB x y else decide (a < b)
theorem ltB_self : ∀ x, ltB x x = false
 | [] => rfl
 | a :: x => by unfold ltB; rw [if_pos rfl]; exact ltB_self x
theorem ltB_eq : ∀ x y, ltB x y = false → ltB y x = false → x = y
 | [], [], _, _ => rfl
 | [], _ :: _, h, _ => by simp [ltB] at h
 | _ :: _, [], _, h => by simp [ltB] at h
 | a :: x, b :: y, h1, h2 => by
   unfold ltB at h1 h2
   by_cases e : a = b
   · rw [if_pos e] at h1
     rw [if_pos e.symm] at h2
     rw [e, ltB_eq x y h1 h2]
   · rw [if_neg e] at h1
     rw [if_neg (fun q => e q.symm)] at h2
     have := of_decide_eq_false h1
     have := of_decide_eq_false h2
     omega
theorem ltB_asym : ∀ x y, ltB x y = true → ltB y x = false
 | [], [], h => by simp [ltB] at h
 | [], _ :: _, _ => rfl
 | _ :: _, [], h => by simp [ltB] at h
 | a :: x, b :: y, h => by
   unfold ltB at h ⊢
   by_cases e : a = b
   · rw [if_pos e] at h
     rw [if_pos e.symm]; exact ltB_asym x y h
   · rw [if_neg e] at h
     rw [if_neg (fun q => e q.symm)]
     have := of_decide_eq_true h
     exact decide_eq_false (by omega)
theorem ltB_trans : ∀ x y z, ltB x y = true → ltB y z = true → ltB x z = true
 | [], _, [], h1, h2 => by cases ‹List Int› <;> simp [ltB] at h1 h2
 | [], _, _ :: _, _, _ => rfl
 | _ :: _, [], _, h, _ => by simp [ltB] at h
 | _ :: _, _ :: _, [], _, h => by simp [ltB] at h
 | a :: x, b :: y, c :: z, h1, h2 => by
   unfold ltB at h1 h2 ⊢
   by_cases e1 : a = b
   · subst e1
     rw [if_pos rfl] at h1
     by_cases e2 : a = c
     · rw [if_pos e2] at h2 ⊢; exact ltB_trans x y z h1 h2
     · rw [if_neg e2] at h2 ⊢; exact h2
   · rw [if_neg e1] at h1
     have := of_decide_eq_true h1
     by_cases e2 : b = c
     · subst e2
       rw [if_neg e1]; exact h1
     · rw [if_neg e2] at h2
       have := of_decide_eq_true h2
       rw [if_neg (by omega)]
       exact decide_eq_true (by omega)
theorem ltB_nil (b : List Int) : ltB [] b = decide (0 < b.length) := by
 cases b
 · rfl
 · simp [ltB]
theorem less_ev {a b : List Int} (ha : a.length ≤ 9000000000000000) : Ev (fun k => canon_less_int.f k a b) (ltB a b) := by
 have loop : ∀ (d i : Nat), i + d = a.length → i ≤ b.length → Ev (fun k => canon_less_int.l0 k a b (a.length : Int) (i : Int)) (ltB (a.drop i) (b.drop i)) := by
   intro d
   induction d with
   | zero =>
     intro i hi hb
     rw [List.drop_of_length_le (show a.length ≤ i by omega), ltB_nil, List.length_drop]
     refine Ev.step (f := fun _ => some (decide (0 < b.length - i))) (fun k => ?_) (Ev.now _)
     simp only [canon_less_int.l0]
     rw [if_neg (by omega)]
     congr 1
     rw [decide_eq_decide]
     omega
   | succ d ih =>
     intro i hi hb
     have hx : i < a.length := by omega
     by_cases hy : i < b.length
     · rw [List.drop_eq_getElem_cons hx, List.drop_eq_getElem_cons hy]
       unfold ltB
       by_cases e : a[i] = b[i]
       · rw [if_pos e]
         refine Ev.step (fun k => ?_) (ih (i + 1) (by omega) (by omega))
         simp only [canon_less_int.l0]
         rw [if_pos (by omega), if_neg (by omega), if_pos (by omega), if_pos (by omega), if_pos (by omega), gi_rd, gi_rd, gi_get hx, gi_get hy, if_pos e, w1 (by omega)]
       · rw [if_neg e]
         refine Ev.step (f := fun _ => some (decide (a[i] < b[i]))) (fun k => ?_) (Ev.now _)
         simp only [canon_less_int.l0]
         rw [if_pos (by omega), if_neg (by omega), if_pos (by omega), if_pos (by omega), if_pos (by omega), gi_rd, gi_rd, gi_get hx, gi_get hy, if_neg e]
     · rw [List.drop_eq_getElem_cons hx, List.drop_of_length_le (show b.length ≤ i by omega)]
       refine Ev.step (f := fun _ => some false) (fun k => ?_) (Ev.now _)
       simp only [canon_less_int.l0]
       rw [if_pos (by omega), if_pos (by omega)]
 exact loop a.length 0 (by omega) (by omega)
theorem refless_ev {a b : List Int} (ha : a.length ≤ 9000000000000000) : Ev (fun k => tangramref21_Less.f k a b) (ltB a b) := by
 have loop : ∀ (d i : Nat), i + d = a.length → i ≤ b.length → Ev (fun k => tangramref21_Less.l0 k a b (i : Int)) (ltB (a.drop i) (b.drop i)) := by
   intro d
   induction d with
   | zero =>
     intro i hi hb
     rw [List.drop_of_length_le (show a.length ≤ i by omega), ltB_nil, List.length_drop]
     refine Ev.step (f := fun k => tangramref21_Less.j1 k a b (i : Int) false) (fun k => ?_) (Ev.step (f := fun _ => some (decide (0 < b.length - i))) (fun k => ?_) (Ev.now _))
     · simp only [tangramref21_Less.l0]
       rw [if_neg (by omega)]
     · simp only [tangramref21_Less.j1]
       rw [if_neg (by decide)]
       congr 1
       rw [decide_eq_decide]
       omega
   | succ d ih =>
     intro i hi hb
     have hx : i < a.length := by omega
     refine Ev.step (f := fun k => tangramref21_Less.j1 k a b (i : Int) (decide ((i : Int) < (b.length : Int)))) (fun k => ?_) ?_
     · simp only [tangramref21_Less.l0]
       rw [if_pos (by omega)]
     by_cases hy : i < b.length
     · rw [List.drop_eq_getElem_cons hx, List.drop_eq_getElem_cons hy, decide_eq_true (show (i : Int) < (b.length : Int) by omega)]
       unfold ltB
       by_cases e : a[i] = b[i]
       · rw [if_pos e]
         refine Ev.step (fun k => ?_) (ih (i + 1) (by omega) (by omega))
         simp only [tangramref21_Less.j1]
         rw [if_pos trivial, if_pos (by omega), if_pos (by omega), if_pos (by omega), gi_rd, gi_rd, gi_get hx, gi_get hy, if_pos e, w1 (by omega)]
       · rw [if_neg e]
         refine Ev.step (f := fun _ => some (decide (a[i] < b[i]))) (fun k => ?_) (Ev.now _)
         simp only [tangramref21_Less.j1]
         rw [if_pos trivial, if_pos (by omega), if_pos (by omega), if_pos (by omega), gi_rd, gi_rd, gi_get hx, gi_get hy, if_neg e]
     · rw [List.drop_eq_getElem_cons hx, List.drop_of_length_le (show b.length ≤ i by omega), decide_eq_false (show ¬ (i : Int) < (b.length : Int) by omega)]
       refine Ev.step (f := fun _ => some false) (fun k => ?_) (Ev.now _)
       simp only [tangramref21_Less.j1]
       rw [if_neg (by decide)]
       congr 1
       exact decide_eq_false (by omega)
 exact loop a.length 0 (by omega) (by omega)
end Go.Proofs.Yteeihjpnhjnknaa.Rot
namespace Go.Proofs.Yteeihjpnhjnknaa.GAll
open Go.RowKit Go.Proofs.YteeihjpnhjnknaaW.PrintWords Go.Proofs.YteeihjpnhjnknaaW.PrintLast Go.Proofs.YteeihjpnhjnknaaW.PrintMore
attribute [local go_sem] max2_int min2_int max_two min_two max_three min_three max_four min_four   -- for this text's walks alone
set_option linter.unusedVariables false
set_option linter.unusedSimpArgs false
def canon_plane_best.l0 : Nat → List Int → List Int → Int → Int → Int → List Int → List Int → Option (List Int × List Int × Int)
 | 0, _, _, _, _, _, _, _ => none
 | k + 1, x5, x6, x7, x8, x119000, x119001, x119002 => if x8 < (x119001.length : Int) then ((canon_plane_code.f k x119000 x119001 x119002 x8).bind fun bt125 => ((canon_less_int.f k bt125.1 x5).bind fun t131 => (if t131 = true then (canon_plane_best.l0 k bt125.1 bt125.2 1 (wrap64 (x8 + 1)) x119000 x119001 x119002) else ((canon_less_int.f k x5 bt125.1).bind fun t132 => (if t132 = true then (canon_plane_best.l0 k x5 x6 x7 (wrap64 (x8 + 1)) x119000 x119001 x119002) else (canon_plane_best.l0 k x5 x6 (wrap64 (x7 + 1)) (wrap64 (x8 + 1)) x119000 x119001 x119002)))))) else (some (x5, x6, x7))
def canon_plane_best.f (k : Nat) (a0_0 : Int) (l0_1 : List Int) (l0_2 : List Int) : Option (List Int × List Int × Int) := (canon_plane_code.f k a0_0 l0_1 l0_2 0).bind fun bt119 => (canon_plane_best.l0 k bt119.1 bt119.2 1 1 a0_0 l0_1 l0_2)
theorem canon_plane_best.mono_l : ∀ k, (∀ y0 y1 y2 y3 y4 y5 y6, LeO (canon_plane_best.l0 k y0 y1 y2 y3 y4 y5 y6) (canon_plane_best.l0 (k + 1) y0 y1 y2 y3 y4 y5 y6))
 | 0 => fun _ _ _ _ _ _ _ r h => by simp [canon_plane_best.l0] at h
 | k + 1 => by
   have ih0 := canon_plane_best.mono_l k
   · intro y0 y1 y2 y3 y4 y5 y6
     unfold canon_plane_best.l0
     repeat' first
     | (with_reducible exact ih0 _ _ _ _ _ _ _)
     | (with_reducible exact canon_less_int.mono _ _ _)
     | (with_reducible exact canon_plane_code.mono _ _ _ _ _)
     | (with_reducible exact LeO.refl _)
     | (with_reducible exact LeO.none _)
     | (with_reducible refine LeO.ite ?_ ?_)
     | (with_reducible refine LeO.bind ?_ (fun _ => ?_))
     | exact ih0 _ _ _ _ _ _ _
     | exact canon_less_int.mono _ _ _
     | exact canon_plane_code.mono _ _ _ _ _
     | exact LeO.none _
     | refine LeO.ite ?_ ?_
     | refine LeO.bind ?_ (fun _ => ?_)
theorem canon_plane_best.mono : ∀ a0 a1 a2 k, LeO (canon_plane_best.f k a0 a1 a2) (canon_plane_best.f (k + 1) a0 a1 a2) := by
 intro a0 a1 a2 k
 have ih0 := canon_plane_best.mono_l k
 unfold canon_plane_best.f
 repeat' first
     | (with_reducible exact ih0 _ _ _ _ _ _ _)
     | (with_reducible exact canon_less_int.mono _ _ _)
     | (with_reducible exact canon_plane_code.mono _ _ _ _ _)
     | (with_reducible exact LeO.refl _)
     | (with_reducible exact LeO.none _)
     | (with_reducible refine LeO.ite ?_ ?_)
     | (with_reducible refine LeO.bind ?_ (fun _ => ?_))
     | exact ih0 _ _ _ _ _ _ _
     | exact canon_less_int.mono _ _ _
     | exact canon_plane_code.mono _ _ _ _ _
     | exact LeO.none _
     | refine LeO.ite ?_ ?_
     | refine LeO.bind ?_ (fun _ => ?_)
set_option maxHeartbeats 8000000 in
set_option maxRecDepth 100000 in
theorem canon_plane_best.calls (k : Nat) (a0_0 : Int) (A0_1 : Option Addr) (c0_1 : Nat) (l0_1 : List Int) (A0_2 : Option Addr) (c0_2 : Nat) (l0_2 : List Int) (r1 : List Int) (r2 : List Int) (r3 : Int) (w : World) (hr0_1 : Kd.C (Kd.int .i64) w A0_1 l0_1.length l0_1) (hc0_1 : l0_1.length ≤ c0_1) (hr0_2 : Kd.C (Kd.int .i64) w A0_2 l0_2.length l0_2) (hc0_2 : l0_2.length ≤ c0_2) (h : canon_plane_best.f k a0_0 l0_1 l0_2 = some (r1, r2, r3)) :
   Calls Try.prog 39 #[.agg #[.int .i64 a0_0, .slice A0_1 l0_1.length c0_1, .slice A0_2 l0_2.length c0_2]] w fun e w' => ∃ v0_ v1_ : Value, e = .returned (.tuple #[v0_, v1_, .int .i64 r3]) ∧ Kd.R (Kd.int .i64) 3 w' w.heap.size (fun k_ => some k_ ≠ (v1_ : Value).ownBlock) v0_ r1 ∧ Kd.R (Kd.int .i64) 3 w' w.heap.size (fun k_ => some k_ ≠ (v0_ : Value).ownBlock) v1_ r2 ∧ Below w.heap.size w w' := by
 have hu69 := Try.underlying69
 have HR0_1 := Aside0.mk hr0_1
 have HC0_1 := Aside0.mk hc0_1
 clear hr0_1 hc0_1
 have HR0_2 := Aside0.mk hr0_2
 have HC0_2 := Aside0.mk hc0_2
 clear hr0_2 hc0_2
 have HB := Aside0.mk (Below.refl w.heap.size w)
 have H : ((canon_plane_code.f k a0_0 l0_1 l0_2 0).bind fun bt119 => (canon_plane_best.l0 k bt119.1 bt119.2 1 1 a0_0 l0_1 l0_2)) = some (r1, r2, r3) := h
 clear h
 replace H := Option.bind_eq_some_iff.mp H
 obtain ⟨⟨t119, t122⟩, A20, H⟩ := H
 replace H : (canon_plane_best.l0 k t119 t122 1 1 a0_0 l0_1 l0_2) = some (r1, r2, r3) := H
 have A2 := Aside0.mk A20
 clear A20
 have H' := Aside0.mk H
 clear H
 go_enter Try.func39, Try.ntmps39
 go_wp2_with (first | ((with_reducible refine gate_dst (N := 1) rfl ?_); refine box_event ?hg (N := 1) ?hd (cs := #[.int .i64 a0_0, .slice A0_1 l0_1.length c0_1, .slice A0_2 l0_2.length c0_2]) (t := 69) ?hr ?_; (case hd => rfl); (case hg => rfl); (case hr => first | (go_simp; done) | (go_simp; rfl)); intro gb118 hg w3 hbox hb; have n0_ := Aside0.mk (below_step (by repeat (first | (with_reducible first | exact HB.out | apply below_alloc | apply pw_below_drewN | apply below_drew1) | exact HB.out)) hb); have n1_ := Aside0.mk (hbox); have n2_ := Aside0.mk ((by rw [hg]; exact (below_size (by repeat (first | (with_reducible first | exact HB.out | apply below_alloc | apply pw_below_drewN | apply below_drew1) | exact HB.out))) : w.heap.size ≤ gb118)); have n3_ := Aside0.mk ((by rw [hg]; exact (below_size (by repeat (first | (with_reducible first | exact HB.out | apply below_alloc | apply pw_below_drewN | apply below_drew1) | exact HB.out))) : w.heap.size ≤ gb118)); clear HB; have HB := n0_; have BK118 := n1_; have GW118 := n2_; have GE118 := n3_; clear n0_ n1_ n2_ n3_; clear hb hbox hg; have hcz4_0 : w3.cell? ⟨gb118, 0, none⟩ = some (.int .i64 a0_0) := (blk_cell BK118.out 0).trans rfl; have hcz4_1 : w3.cell? ⟨gb118, 1, none⟩ = some (.slice A0_1 l0_1.length c0_1) := (blk_cell BK118.out 1).trans rfl; have hcz4_2 : w3.cell? ⟨gb118, 2, none⟩ = some (.slice A0_2 l0_2.length c0_2) := (blk_cell BK118.out 2).trans rfl; have hfz4_0 := blk_frozen BK118.out 0; have hfz4_1 := blk_frozen BK118.out 1; have hfz4_2 := blk_frozen BK118.out 2) | ((with_reducible refine gate_callee (f := 37) rfl ?_); refine goesL_ (some 13) rfl rfl Try.func37 (by kernel_rfl) rfl #[.agg #[.int .i64 a0_0, .slice A0_1 l0_1.length c0_1, .slice A0_2 l0_2.length c0_2], .int .i64 0] rfl (by (try simp only [List.map_toArray, List.map_cons, List.map_nil]); first | done | rfl | (simp only [List.length_drop, List.length_take]; rfl)) ?_; (with_reducible refine (canon_plane_code.calls k a0_0 _ _ l0_1 _ _ l0_2 0 t119 t122 _ ?side1 ?side2 ?side3 ?side4 A2.out).mono ?_); (case side1 => repeat (first | exact (Kd.C_below HR0_1.out HB.out) | (with_reducible refine Kd.C_alloc ?_ _) | (with_reducible refine Kd.C_drewN ?_ _) | (with_reducible refine Kd.C_drew ?_))); (case side2 => exact HC0_1.out); (case side3 => repeat (first | exact (Kd.C_below HR0_2.out HB.out) | (with_reducible refine Kd.C_alloc ?_ _) | (with_reducible refine Kd.C_drewN ?_ _) | (with_reducible refine Kd.C_drew ?_))); (case side4 => exact HC0_2.out); rintro e w5 ⟨v120, v123, rfl, ho0, ho1, hb⟩; refine ⟨_, rfl, ?_⟩; have n0_ := Aside0.mk (Kd.R_lower ho0 (below_size (by repeat (first | (with_reducible first | exact HB.out | apply below_alloc | apply pw_below_drewN | apply below_drew1 | refine below_set ?_ GE118.out) | exact HB.out)))); have n1_ := Aside0.mk (Kd.R_lower ho1 (below_size (by repeat (first | (with_reducible first | exact HB.out | apply below_alloc | apply pw_below_drewN | apply below_drew1 | refine below_set ?_ GE118.out) | exact HB.out)))); have n2_ := Aside0.mk (blk_below (g := gb118) (o := .cells #[.int .i64 a0_0, .slice A0_1 l0_1.length c0_1, .slice A0_2 l0_2.length c0_2] 69 (0, 0)) (by (with_reducible repeat (first | refine blk_drewN ?_ _ | refine blk_drew ?_ | refine blk_alloc ?_ _)); exact BK118.out) hb); have n3_ := Aside0.mk (below_step (by repeat (first | (with_reducible first | exact HB.out | apply below_alloc | apply pw_below_drewN | apply below_drew1 | refine below_set ?_ GE118.out) | exact HB.out)) hb); clear BK118; clear HB; have HO121 := n0_; have HO124 := n1_; have BK118 := n2_; have HB := n3_; clear n0_ n1_ n2_ n3_; (try clear hb); (try clear hb2); (try clear hk); (try clear hi); (try clear ho0); (try clear ho1)))
 go_loopg [5, 6, 7, 8] k (fun kq v5 v6 v7 v8 w' => ∃ (x5_1 : List Int) (x6_1 : List Int) (x7_1 : Int) (x8_1 : Int), v7 = .int .i64 x7_1 ∧ v8 = .int .i64 x8_1 ∧ Aside0 (canon_plane_best.l0 kq x5_1 x6_1 x7_1 x8_1 a0_0 l0_1 l0_2 = some (r1, r2, r3)) ∧ Aside0 (kq ≤ k) ∧ Aside0 (Kd.R (Kd.int .i64) 3 w' w.heap.size (fun k_ => some k_ ≠ (v6 : Value).ownBlock) v5 x5_1) ∧ Aside0 (Kd.R (Kd.int .i64) 3 w' w.heap.size (fun k_ => some k_ ≠ (v5 : Value).ownBlock) v6 x6_1) ∧ Aside0 (w'.heap[gb118]? = some (.cells #[.int .i64 a0_0, (.slice A0_1 l0_1.length c0_1), (.slice A0_2 l0_2.length c0_2)] 69 (0, 0))) ∧ Aside0 (Below w.heap.size w w'))
 case atStart => exact ⟨(t119), (t122), (1), (1), (by first | rfl | (simp; done) | (simp [*]; done)), (by first | rfl | (simp; done) | (simp [*]; done)), H', ⟨Nat.le_refl _⟩, ⟨by (with_reducible repeat (first | apply Kd.R_alloc | apply Kd.R_drewN | apply Kd.R_drew)); exact HO121.out⟩, ⟨by (with_reducible repeat (first | apply Kd.R_alloc | apply Kd.R_drewN | apply Kd.R_drew)); exact HO124.out⟩, ⟨by (with_reducible repeat (first | refine blk_drewN ?_ _ | refine blk_drew ?_ | refine blk_alloc ?_ _)); exact BK118.out⟩, ⟨by repeat (first | (with_reducible first | exact HB.out | apply below_alloc | apply pw_below_drewN | apply below_drew1 | refine below_set ?_ GE118.out) | exact HB.out)⟩⟩
 case round =>
   clear H'
   try clear p2
   try clear c3
   try clear hcz4_0
   try clear hcz4_1
   try clear hcz4_2
   try clear hfz4_0
   try clear hfz4_1
   try clear hfz4_2
   obtain ⟨x5_1, x6_1, x7_1, x8_1, rfl, rfl, HA, HK1, HO_5, HO_6, BK118, HB⟩ := hrel
   cases gk with
   | zero => exact absurd HA.out (by simp [canon_plane_best.l0])
   | succ k1 =>
     have H := HA.out
     clear HA
     simp only [canon_plane_best.l0] at H
     by_cases c6 : x8_1 < (l0_1.length : Int)
     · rw [if_pos c6] at H
       have c6b0 : decide (x8_1 < (l0_1.length : Int)) = true := decide_eq_true c6
       clear c6
       replace H := Option.bind_eq_some_iff.mp H
       obtain ⟨⟨t125, t128⟩, A70, H⟩ := H
       replace H : ((canon_less_int.f k1 t125 x5_1).bind fun t131 => (if t131 = true then (canon_plane_best.l0 k1 t125 t128 1 (wrap64 (x8_1 + 1)) a0_0 l0_1 l0_2) else ((canon_less_int.f k1 x5_1 t125).bind fun t132 => (if t132 = true then (canon_plane_best.l0 k1 x5_1 x6_1 x7_1 (wrap64 (x8_1 + 1)) a0_0 l0_1 l0_2) else (canon_plane_best.l0 k1 x5_1 x6_1 (wrap64 (x7_1 + 1)) (wrap64 (x8_1 + 1)) a0_0 l0_1 l0_2))))) = some (r1, r2, r3) := H
       have A7 := Aside0.mk A70
       clear A70
       replace H := Option.bind_eq_some_iff.mp H
       obtain ⟨t131, A80, H⟩ := H
       replace H : (if t131 = true then (canon_plane_best.l0 k1 t125 t128 1 (wrap64 (x8_1 + 1)) a0_0 l0_1 l0_2) else ((canon_less_int.f k1 x5_1 t125).bind fun t132 => (if t132 = true then (canon_plane_best.l0 k1 x5_1 x6_1 x7_1 (wrap64 (x8_1 + 1)) a0_0 l0_1 l0_2) else (canon_plane_best.l0 k1 x5_1 x6_1 (wrap64 (x7_1 + 1)) (wrap64 (x8_1 + 1)) a0_0 l0_1 l0_2)))) = some (r1, r2, r3) := H
       have A8 := Aside0.mk A80
       clear A80
       by_cases c9 : t131 = true
       · subst c9
         have H1 : (canon_plane_best.l0 k1 t125 t128 1 (wrap64 (x8_1 + 1)) a0_0 l0_1 l0_2) = some (r1, r2, r3) := by rw [if_pos rfl] at H; exact H
         clear H
         have H := H1
         clear H1
         have H' := Aside0.mk H
         clear H
         have hcz10_0 : wr.cell? ⟨gb118, 0, none⟩ = some (.int .i64 a0_0) := (blk_cell BK118.out 0).trans rfl
         have hcz10_1 : wr.cell? ⟨gb118, 1, none⟩ = some (.slice A0_1 l0_1.length c0_1) := (blk_cell BK118.out 1).trans rfl
         have hcz10_2 : wr.cell? ⟨gb118, 2, none⟩ = some (.slice A0_2 l0_2.length c0_2) := (blk_cell BK118.out 2).trans rfl
         have hfz10_0 := blk_frozen BK118.out 0
         have hfz10_1 := blk_frozen BK118.out 1
         have hfz10_2 := blk_frozen BK118.out 2
         go_wp2_with (first | ((with_reducible refine gate_callee (f := 37) rfl ?_); refine goesL_ (some 26) rfl rfl Try.func37 (by kernel_rfl) rfl #[.agg #[.int .i64 a0_0, .slice A0_1 l0_1.length c0_1, .slice A0_2 l0_2.length c0_2], .int .i64 x8_1] rfl (by (try simp only [List.map_toArray, List.map_cons, List.map_nil]); first | done | rfl | (simp only [List.length_drop, List.length_take]; rfl)) ?_; (with_reducible refine (canon_plane_code.calls k1 a0_0 _ _ l0_1 _ _ l0_2 x8_1 t125 t128 _ ?side1 ?side2 ?side3 ?side4 A7.out).mono ?_); (case side1 => repeat (first | exact (Kd.C_below HR0_1.out HB.out) | (with_reducible refine Kd.C_alloc ?_ _) | (with_reducible refine Kd.C_drewN ?_ _) | (with_reducible refine Kd.C_drew ?_))); (case side2 => exact HC0_1.out); (case side3 => repeat (first | exact (Kd.C_below HR0_2.out HB.out) | (with_reducible refine Kd.C_alloc ?_ _) | (with_reducible refine Kd.C_drewN ?_ _) | (with_reducible refine Kd.C_drew ?_))); (case side4 => exact HC0_2.out); rintro e w11 ⟨v126, v129, rfl, ho0, ho1, hb⟩; refine ⟨_, rfl, ?_⟩; have n0_ := Aside0.mk (Kd.R_mono (Kd.R_told (Kd.R_told (Kd.R_old (by (with_reducible repeat (first | apply Kd.R_alloc | apply Kd.R_drewN | apply Kd.R_drew)); exact HO_5.out) hb) (Kd.R_base ho0)) (Kd.R_base ho1)) (fun _ h_ => h_.1)); have n1_ := Aside0.mk (Kd.R_mono (Kd.R_told (Kd.R_told (Kd.R_old (by (with_reducible repeat (first | apply Kd.R_alloc | apply Kd.R_drewN | apply Kd.R_drew)); exact HO_6.out) hb) (Kd.R_base ho0)) (Kd.R_base ho1)) (fun _ h_ => h_.1)); have n2_ := Aside0.mk (Kd.R_lower (Kd.R_new' (Kd.R_new' ho0 (Kd.R_lt (by (with_reducible repeat (first | apply Kd.R_alloc | apply Kd.R_drewN | apply Kd.R_drew)); exact HO_5.out))) (Kd.R_lt (by (with_reducible repeat (first | apply Kd.R_alloc | apply Kd.R_drewN | apply Kd.R_drew)); exact HO_6.out))) (below_size (by repeat (first | (with_reducible first | exact HB.out | apply below_alloc | apply pw_below_drewN | apply below_drew1 | refine below_set ?_ GE118.out) | exact HB.out)))); have n3_ := Aside0.mk (Kd.R_lower (Kd.R_new' (Kd.R_new' ho1 (Kd.R_lt (by (with_reducible repeat (first | apply Kd.R_alloc | apply Kd.R_drewN | apply Kd.R_drew)); exact HO_5.out))) (Kd.R_lt (by (with_reducible repeat (first | apply Kd.R_alloc | apply Kd.R_drewN | apply Kd.R_drew)); exact HO_6.out))) (below_size (by repeat (first | (with_reducible first | exact HB.out | apply below_alloc | apply pw_below_drewN | apply below_drew1 | refine below_set ?_ GE118.out) | exact HB.out)))); have n4_ := Aside0.mk (blk_below (g := gb118) (o := .cells #[.int .i64 a0_0, .slice A0_1 l0_1.length c0_1, .slice A0_2 l0_2.length c0_2] 69 (0, 0)) (by (with_reducible repeat (first | refine blk_drewN ?_ _ | refine blk_drew ?_ | refine blk_alloc ?_ _)); exact BK118.out) hb); have n5_ := Aside0.mk (below_step (by repeat (first | (with_reducible first | exact HB.out | apply below_alloc | apply pw_below_drewN | apply below_drew1 | refine below_set ?_ GE118.out) | exact HB.out)) hb); clear HO_5; clear HO_6; clear BK118; clear HB; have HO_5 := n0_; have HO_6 := n1_; have HO127 := n2_; have HO130 := n3_; have BK118 := n4_; have HB := n5_; clear n0_ n1_ n2_ n3_ n4_ n5_; (try clear hb); (try clear hb2); (try clear hk); (try clear hi); (try clear ho0); (try clear ho1); obtain ⟨Ao12, co12, eo12⟩ := Kd.R_slice HO127.out; subst eo12; obtain ⟨Ao13, co13, eo13⟩ := Kd.R_slice HO_5.out; subst eo13) | ((with_reducible refine gate_callee (f := 42) rfl ?_); refine goesL_ (some 32) rfl rfl Try.func42 (by kernel_rfl) rfl #[.slice Ao12 t125.length co12, .slice Ao13 x5_1.length co13] rfl (by (try simp only [List.map_toArray, List.map_cons, List.map_nil]); first | done | rfl | (simp only [List.length_drop, List.length_take]; rfl)) ?_; (with_reducible refine (canon_less_int.calls k1 _ _ t125 _ _ x5_1 true _ ?side1 ?side2 ?side3 ?side4 A8.out).mono ?_); (case side1 => repeat (first | exact (Kd.R_reads' HO127.out).2.2 | (with_reducible refine Kd.C_alloc ?_ _) | (with_reducible refine Kd.C_drewN ?_ _) | (with_reducible refine Kd.C_drew ?_))); (case side2 => exact (Kd.R_reads' HO127.out).2.1); (case side3 => repeat (first | exact (Kd.R_reads' HO_5.out).2.2 | (with_reducible refine Kd.C_alloc ?_ _) | (with_reducible refine Kd.C_drewN ?_ _) | (with_reducible refine Kd.C_drew ?_))); (case side4 => exact (Kd.R_reads' HO_5.out).2.1); rintro e w' ⟨rfl, ⟨nd, rfl⟩⟩; refine ⟨_, rfl, ?_⟩))
         go_roundg k1
         case measure => have := HK1.out; omega
         case rel => exact ⟨(t125), (t128), (1), (wrap64 (x8_1 + 1)), (by first | rfl | (simp; done) | (simp [*]; done)), (by first | rfl | (simp; done) | (simp [*]; done)), H', ⟨by have := HK1.out; omega⟩, ⟨by (with_reducible repeat (first | apply Kd.R_alloc | apply Kd.R_drewN | apply Kd.R_drew)); exact Kd.R_mono HO127.out (fun _ hk => hk.1.1)⟩, ⟨by (with_reducible repeat (first | apply Kd.R_alloc | apply Kd.R_drewN | apply Kd.R_drew)); exact Kd.R_mono HO130.out (fun _ hk => hk.1.1)⟩, ⟨by (with_reducible repeat (first | refine blk_drewN ?_ _ | refine blk_drew ?_ | refine blk_alloc ?_ _)); exact BK118.out⟩, ⟨by repeat (first | (with_reducible first | exact HB.out | apply below_alloc | apply pw_below_drewN | apply below_drew1 | refine below_set ?_ GE118.out) | exact HB.out)⟩⟩
       · replace c9 := Bool.eq_false_iff.mpr c9
         subst c9
         have H1 : ((canon_less_int.f k1 x5_1 t125).bind fun t132 => (if t132 = true then (canon_plane_best.l0 k1 x5_1 x6_1 x7_1 (wrap64 (x8_1 + 1)) a0_0 l0_1 l0_2) else (canon_plane_best.l0 k1 x5_1 x6_1 (wrap64 (x7_1 + 1)) (wrap64 (x8_1 + 1)) a0_0 l0_1 l0_2))) = some (r1, r2, r3) := by rw [if_neg (show ¬ (false = true) by decide)] at H; exact H
         clear H
         have H := H1
         clear H1
         replace H := Option.bind_eq_some_iff.mp H
         obtain ⟨t132, A140, H⟩ := H
         replace H : (if t132 = true then (canon_plane_best.l0 k1 x5_1 x6_1 x7_1 (wrap64 (x8_1 + 1)) a0_0 l0_1 l0_2) else (canon_plane_best.l0 k1 x5_1 x6_1 (wrap64 (x7_1 + 1)) (wrap64 (x8_1 + 1)) a0_0 l0_1 l0_2)) = some (r1, r2, r3) := H
         have A14 := Aside0.mk A140
         clear A140
         by_cases c15 : t132 = true
         · subst c15
           have H1 : (canon_plane_best.l0 k1 x5_1 x6_1 x7_1 (wrap64 (x8_1 + 1)) a0_0 l0_1 l0_2) = some (r1, r2, r3) := by rw [if_pos rfl] at H; exact H
           clear H
           have H := H1
           clear H1
           have H' := Aside0.mk H
           clear H
           have hcz16_0 : wr.cell? ⟨gb118, 0, none⟩ = some (.int .i64 a0_0) := (blk_cell BK118.out 0).trans rfl
           have hcz16_1 : wr.cell? ⟨gb118, 1, none⟩ = some (.slice A0_1 l0_1.length c0_1) := (blk_cell BK118.out 1).trans rfl
           have hcz16_2 : wr.cell? ⟨gb118, 2, none⟩ = some (.slice A0_2 l0_2.length c0_2) := (blk_cell BK118.out 2).trans rfl
           have hfz16_0 := blk_frozen BK118.out 0
           have hfz16_1 := blk_frozen BK118.out 1
           have hfz16_2 := blk_frozen BK118.out 2
           go_wp2_with (first | ((with_reducible refine gate_callee (f := 37) rfl ?_); refine goesL_ (some 26) rfl rfl Try.func37 (by kernel_rfl) rfl #[.agg #[.int .i64 a0_0, .slice A0_1 l0_1.length c0_1, .slice A0_2 l0_2.length c0_2], .int .i64 x8_1] rfl (by (try simp only [List.map_toArray, List.map_cons, List.map_nil]); first | done | rfl | (simp only [List.length_drop, List.length_take]; rfl)) ?_; (with_reducible refine (canon_plane_code.calls k1 a0_0 _ _ l0_1 _ _ l0_2 x8_1 t125 t128 _ ?side1 ?side2 ?side3 ?side4 A7.out).mono ?_); (case side1 => repeat (first | exact (Kd.C_below HR0_1.out HB.out) | (with_reducible refine Kd.C_alloc ?_ _) | (with_reducible refine Kd.C_drewN ?_ _) | (with_reducible refine Kd.C_drew ?_))); (case side2 => exact HC0_1.out); (case side3 => repeat (first | exact (Kd.C_below HR0_2.out HB.out) | (with_reducible refine Kd.C_alloc ?_ _) | (with_reducible refine Kd.C_drewN ?_ _) | (with_reducible refine Kd.C_drew ?_))); (case side4 => exact HC0_2.out); rintro e w17 ⟨v126, v129, rfl, ho0, ho1, hb⟩; refine ⟨_, rfl, ?_⟩; have n0_ := Aside0.mk (Kd.R_mono (Kd.R_told (Kd.R_told (Kd.R_old (by (with_reducible repeat (first | apply Kd.R_alloc | apply Kd.R_drewN | apply Kd.R_drew)); exact HO_5.out) hb) (Kd.R_base ho0)) (Kd.R_base ho1)) (fun _ h_ => h_.1)); have n1_ := Aside0.mk (Kd.R_mono (Kd.R_told (Kd.R_told (Kd.R_old (by (with_reducible repeat (first | apply Kd.R_alloc | apply Kd.R_drewN | apply Kd.R_drew)); exact HO_6.out) hb) (Kd.R_base ho0)) (Kd.R_base ho1)) (fun _ h_ => h_.1)); have n2_ := Aside0.mk (Kd.R_lower (Kd.R_new' (Kd.R_new' ho0 (Kd.R_lt (by (with_reducible repeat (first | apply Kd.R_alloc | apply Kd.R_drewN | apply Kd.R_drew)); exact HO_5.out))) (Kd.R_lt (by (with_reducible repeat (first | apply Kd.R_alloc | apply Kd.R_drewN | apply Kd.R_drew)); exact HO_6.out))) (below_size (by repeat (first | (with_reducible first | exact HB.out | apply below_alloc | apply pw_below_drewN | apply below_drew1 | refine below_set ?_ GE118.out) | exact HB.out)))); have n3_ := Aside0.mk (Kd.R_lower (Kd.R_new' (Kd.R_new' ho1 (Kd.R_lt (by (with_reducible repeat (first | apply Kd.R_alloc | apply Kd.R_drewN | apply Kd.R_drew)); exact HO_5.out))) (Kd.R_lt (by (with_reducible repeat (first | apply Kd.R_alloc | apply Kd.R_drewN | apply Kd.R_drew)); exact HO_6.out))) (below_size (by repeat (first | (with_reducible first | exact HB.out | apply below_alloc | apply pw_below_drewN | apply below_drew1 | refine below_set ?_ GE118.out) | exact HB.out)))); have n4_ := Aside0.mk (blk_below (g := gb118) (o := .cells #[.int .i64 a0_0, .slice A0_1 l0_1.length c0_1, .slice A0_2 l0_2.length c0_2] 69 (0, 0)) (by (with_reducible repeat (first | refine blk_drewN ?_ _ | refine blk_drew ?_ | refine blk_alloc ?_ _)); exact BK118.out) hb); have n5_ := Aside0.mk (below_step (by repeat (first | (with_reducible first | exact HB.out | apply below_alloc | apply pw_below_drewN | apply below_drew1 | refine below_set ?_ GE118.out) | exact HB.out)) hb); clear HO_5; clear HO_6; clear BK118; clear HB; have HO_5 := n0_; have HO_6 := n1_; have HO127 := n2_; have HO130 := n3_; have BK118 := n4_; have HB := n5_; clear n0_ n1_ n2_ n3_ n4_ n5_; (try clear hb); (try clear hb2); (try clear hk); (try clear hi); (try clear ho0); (try clear ho1); obtain ⟨Ao18, co18, eo18⟩ := Kd.R_slice HO127.out; subst eo18; obtain ⟨Ao19, co19, eo19⟩ := Kd.R_slice HO_5.out; subst eo19) | ((with_reducible refine gate_callee (f := 42) rfl ?_); refine goesL_ (some 32) rfl rfl Try.func42 (by kernel_rfl) rfl #[.slice Ao18 t125.length co18, .slice Ao19 x5_1.length co19] rfl (by (try simp only [List.map_toArray, List.map_cons, List.map_nil]); first | done | rfl | (simp only [List.length_drop, List.length_take]; rfl)) ?_; (with_reducible refine (canon_less_int.calls k1 _ _ t125 _ _ x5_1 false _ ?side1 ?side2 ?side3 ?side4 A8.out).mono ?_); (case side1 => repeat (first | exact (Kd.R_reads' HO127.out).2.2 | (with_reducible refine Kd.C_alloc ?_ _) | (with_reducible refine Kd.C_drewN ?_ _) | (with_reducible refine Kd.C_drew ?_))); (case side2 => exact (Kd.R_reads' HO127.out).2.1); (case side3 => repeat (first | exact (Kd.R_reads' HO_5.out).2.2 | (with_reducible refine Kd.C_alloc ?_ _) | (with_reducible refine Kd.C_drewN ?_ _) | (with_reducible refine Kd.C_drew ?_))); (case side4 => exact (Kd.R_reads' HO_5.out).2.1); rintro e w' ⟨rfl, ⟨nd, rfl⟩⟩; refine ⟨_, rfl, ?_⟩) | ((with_reducible refine gate_callee (f := 42) rfl ?_); refine goesL_ (some 38) rfl rfl Try.func42 (by kernel_rfl) rfl #[.slice Ao19 x5_1.length co19, .slice Ao18 t125.length co18] rfl (by (try simp only [List.map_toArray, List.map_cons, List.map_nil]); first | done | rfl | (simp only [List.length_drop, List.length_take]; rfl)) ?_; (with_reducible refine (canon_less_int.calls k1 _ _ x5_1 _ _ t125 true _ ?side1 ?side2 ?side3 ?side4 A14.out).mono ?_); (case side1 => repeat (first | exact (Kd.R_reads' HO_5.out).2.2 | (with_reducible refine Kd.C_alloc ?_ _) | (with_reducible refine Kd.C_drewN ?_ _) | (with_reducible refine Kd.C_drew ?_))); (case side2 => exact (Kd.R_reads' HO_5.out).2.1); (case side3 => repeat (first | exact (Kd.R_reads' HO127.out).2.2 | (with_reducible refine Kd.C_alloc ?_ _) | (with_reducible refine Kd.C_drewN ?_ _) | (with_reducible refine Kd.C_drew ?_))); (case side4 => exact (Kd.R_reads' HO127.out).2.1); rintro e w' ⟨rfl, ⟨nd, rfl⟩⟩; refine ⟨_, rfl, ?_⟩))
           go_roundg k1
           case measure => have := HK1.out; omega
           case rel => exact ⟨(x5_1), (x6_1), (x7_1), (wrap64 (x8_1 + 1)), (by first | rfl | (simp; done) | (simp [*]; done)), (by first | rfl | (simp; done) | (simp [*]; done)), H', ⟨by have := HK1.out; omega⟩, ⟨by (with_reducible repeat (first | apply Kd.R_alloc | apply Kd.R_drewN | apply Kd.R_drew)); exact Kd.R_mono HO_5.out (fun _ hk => hk.1.1)⟩, ⟨by (with_reducible repeat (first | apply Kd.R_alloc | apply Kd.R_drewN | apply Kd.R_drew)); exact Kd.R_mono HO_6.out (fun _ hk => hk.1.1)⟩, ⟨by (with_reducible repeat (first | refine blk_drewN ?_ _ | refine blk_drew ?_ | refine blk_alloc ?_ _)); exact BK118.out⟩, ⟨by repeat (first | (with_reducible first | exact HB.out | apply below_alloc | apply pw_below_drewN | apply below_drew1 | refine below_set ?_ GE118.out) | exact HB.out)⟩⟩
         · replace c15 := Bool.eq_false_iff.mpr c15
           subst c15
           have H1 : (canon_plane_best.l0 k1 x5_1 x6_1 (wrap64 (x7_1 + 1)) (wrap64 (x8_1 + 1)) a0_0 l0_1 l0_2) = some (r1, r2, r3) := by rw [if_neg (show ¬ (false = true) by decide)] at H; exact H
           clear H
           have H := H1
           clear H1
           have H' := Aside0.mk H
           clear H
           have hcz20_0 : wr.cell? ⟨gb118, 0, none⟩ = some (.int .i64 a0_0) := (blk_cell BK118.out 0).trans rfl
           have hcz20_1 : wr.cell? ⟨gb118, 1, none⟩ = some (.slice A0_1 l0_1.length c0_1) := (blk_cell BK118.out 1).trans rfl
           have hcz20_2 : wr.cell? ⟨gb118, 2, none⟩ = some (.slice A0_2 l0_2.length c0_2) := (blk_cell BK118.out 2).trans rfl
           have hfz20_0 := blk_frozen BK118.out 0
           have hfz20_1 := blk_frozen BK118.out 1
           have hfz20_2 := blk_frozen BK118.out 2
           go_wp2_with (first | ((with_reducible refine gate_callee (f := 37) rfl ?_); refine goesL_ (some 26) rfl rfl Try.func37 (by kernel_rfl) rfl #[.agg #[.int .i64 a0_0, .slice A0_1 l0_1.length c0_1, .slice A0_2 l0_2.length c0_2], .int .i64 x8_1] rfl (by (try simp only [List.map_toArray, List.map_cons, List.map_nil]); first | done | rfl | (simp only [List.length_drop, List.length_take]; rfl)) ?_; (with_reducible refine (canon_plane_code.calls k1 a0_0 _ _ l0_1 _ _ l0_2 x8_1 t125 t128 _ ?side1 ?side2 ?side3 ?side4 A7.out).mono ?_); (case side1 => repeat (first | exact (Kd.C_below HR0_1.out HB.out) | (with_reducible refine Kd.C_alloc ?_ _) | (with_reducible refine Kd.C_drewN ?_ _) | (with_reducible refine Kd.C_drew ?_))); (case side2 => exact HC0_1.out); (case side3 => repeat (first | exact (Kd.C_below HR0_2.out HB.out) | (with_reducible refine Kd.C_alloc ?_ _) | (with_reducible refine Kd.C_drewN ?_ _) | (with_reducible refine Kd.C_drew ?_))); (case side4 => exact HC0_2.out); rintro e w21 ⟨v126, v129, rfl, ho0, ho1, hb⟩; refine ⟨_, rfl, ?_⟩; have n0_ := Aside0.mk (Kd.R_mono (Kd.R_told (Kd.R_told (Kd.R_old (by (with_reducible repeat (first | apply Kd.R_alloc | apply Kd.R_drewN | apply Kd.R_drew)); exact HO_5.out) hb) (Kd.R_base ho0)) (Kd.R_base ho1)) (fun _ h_ => h_.1)); have n1_ := Aside0.mk (Kd.R_mono (Kd.R_told (Kd.R_told (Kd.R_old (by (with_reducible repeat (first | apply Kd.R_alloc | apply Kd.R_drewN | apply Kd.R_drew)); exact HO_6.out) hb) (Kd.R_base ho0)) (Kd.R_base ho1)) (fun _ h_ => h_.1)); have n2_ := Aside0.mk (Kd.R_lower (Kd.R_new' (Kd.R_new' ho0 (Kd.R_lt (by (with_reducible repeat (first | apply Kd.R_alloc | apply Kd.R_drewN | apply Kd.R_drew)); exact HO_5.out))) (Kd.R_lt (by (with_reducible repeat (first | apply Kd.R_alloc | apply Kd.R_drewN | apply Kd.R_drew)); exact HO_6.out))) (below_size (by repeat (first | (with_reducible first | exact HB.out | apply below_alloc | apply pw_below_drewN | apply below_drew1 | refine below_set ?_ GE118.out) | exact HB.out)))); have n3_ := Aside0.mk (Kd.R_lower (Kd.R_new' (Kd.R_new' ho1 (Kd.R_lt (by (with_reducible repeat (first | apply Kd.R_alloc | apply Kd.R_drewN | apply Kd.R_drew)); exact HO_5.out))) (Kd.R_lt (by (with_reducible repeat (first | apply Kd.R_alloc | apply Kd.R_drewN | apply Kd.R_drew)); exact HO_6.out))) (below_size (by repeat (first | (with_reducible first | exact HB.out | apply below_alloc | apply pw_below_drewN | apply below_drew1 | refine below_set ?_ GE118.out) | exact HB.out)))); have n4_ := Aside0.mk (blk_below (g := gb118) (o := .cells #[.int .i64 a0_0, .slice A0_1 l0_1.length c0_1, .slice A0_2 l0_2.length c0_2] 69 (0, 0)) (by (with_reducible repeat (first | refine blk_drewN ?_ _ | refine blk_drew ?_ | refine blk_alloc ?_ _)); exact BK118.out) hb); have n5_ := Aside0.mk (below_step (by repeat (first | (with_reducible first | exact HB.out | apply below_alloc | apply pw_below_drewN | apply below_drew1 | refine below_set ?_ GE118.out) | exact HB.out)) hb); clear HO_5; clear HO_6; clear BK118; clear HB; have HO_5 := n0_; have HO_6 := n1_; have HO127 := n2_; have HO130 := n3_; have BK118 := n4_; have HB := n5_; clear n0_ n1_ n2_ n3_ n4_ n5_; (try clear hb); (try clear hb2); (try clear hk); (try clear hi); (try clear ho0); (try clear ho1); obtain ⟨Ao22, co22, eo22⟩ := Kd.R_slice HO127.out; subst eo22; obtain ⟨Ao23, co23, eo23⟩ := Kd.R_slice HO_5.out; subst eo23) | ((with_reducible refine gate_callee (f := 42) rfl ?_); refine goesL_ (some 32) rfl rfl Try.func42 (by kernel_rfl) rfl #[.slice Ao22 t125.length co22, .slice Ao23 x5_1.length co23] rfl (by (try simp only [List.map_toArray, List.map_cons, List.map_nil]); first | done | rfl | (simp only [List.length_drop, List.length_take]; rfl)) ?_; (with_reducible refine (canon_less_int.calls k1 _ _ t125 _ _ x5_1 false _ ?side1 ?side2 ?side3 ?side4 A8.out).mono ?_); (case side1 => repeat (first | exact (Kd.R_reads' HO127.out).2.2 | (with_reducible refine Kd.C_alloc ?_ _) | (with_reducible refine Kd.C_drewN ?_ _) | (with_reducible refine Kd.C_drew ?_))); (case side2 => exact (Kd.R_reads' HO127.out).2.1); (case side3 => repeat (first | exact (Kd.R_reads' HO_5.out).2.2 | (with_reducible refine Kd.C_alloc ?_ _) | (with_reducible refine Kd.C_drewN ?_ _) | (with_reducible refine Kd.C_drew ?_))); (case side4 => exact (Kd.R_reads' HO_5.out).2.1); rintro e w' ⟨rfl, ⟨nd, rfl⟩⟩; refine ⟨_, rfl, ?_⟩) | ((with_reducible refine gate_callee (f := 42) rfl ?_); refine goesL_ (some 38) rfl rfl Try.func42 (by kernel_rfl) rfl #[.slice Ao23 x5_1.length co23, .slice Ao22 t125.length co22] rfl (by (try simp only [List.map_toArray, List.map_cons, List.map_nil]); first | done | rfl | (simp only [List.length_drop, List.length_take]; rfl)) ?_; (with_reducible refine (canon_less_int.calls k1 _ _ x5_1 _ _ t125 false _ ?side1 ?side2 ?side3 ?side4 A14.out).mono ?_); (case side1 => repeat (first | exact (Kd.R_reads' HO_5.out).2.2 | (with_reducible refine Kd.C_alloc ?_ _) | (with_reducible refine Kd.C_drewN ?_ _) | (with_reducible refine Kd.C_drew ?_))); (case side2 => exact (Kd.R_reads' HO_5.out).2.1); (case side3 => repeat (first | exact (Kd.R_reads' HO127.out).2.2 | (with_reducible refine Kd.C_alloc ?_ _) | (with_reducible refine Kd.C_drewN ?_ _) | (with_reducible refine Kd.C_drew ?_))); (case side4 => exact (Kd.R_reads' HO127.out).2.1); rintro e w' ⟨rfl, ⟨nd, rfl⟩⟩; refine ⟨_, rfl, ?_⟩))
           go_roundg k1
           case measure => have := HK1.out; omega
           case rel => exact ⟨(x5_1), (x6_1), (wrap64 (x7_1 + 1)), (wrap64 (x8_1 + 1)), (by first | rfl | (simp; done) | (simp [*]; done)), (by first | rfl | (simp; done) | (simp [*]; done)), H', ⟨by have := HK1.out; omega⟩, ⟨by (with_reducible repeat (first | apply Kd.R_alloc | apply Kd.R_drewN | apply Kd.R_drew)); exact Kd.R_mono HO_5.out (fun _ hk => hk.1.1)⟩, ⟨by (with_reducible repeat (first | apply Kd.R_alloc | apply Kd.R_drewN | apply Kd.R_drew)); exact Kd.R_mono HO_6.out (fun _ hk => hk.1.1)⟩, ⟨by (with_reducible repeat (first | refine blk_drewN ?_ _ | refine blk_drew ?_ | refine blk_alloc ?_ _)); exact BK118.out⟩, ⟨by repeat (first | (with_reducible first | exact HB.out | apply below_alloc | apply pw_below_drewN | apply below_drew1 | refine below_set ?_ GE118.out) | exact HB.out)⟩⟩
     · rw [if_neg c6] at H
       have c6b0 : decide (x8_1 < (l0_1.length : Int)) = false := decide_eq_false c6
       clear c6
       simp only [Option.some.injEq, Prod.mk.injEq] at H
       obtain ⟨rfl, rfl, rfl⟩ := H
       have hcz24_0 : wr.cell? ⟨gb118, 0, none⟩ = some (.int .i64 a0_0) := (blk_cell BK118.out 0).trans rfl
       have hcz24_1 : wr.cell? ⟨gb118, 1, none⟩ = some (.slice A0_1 l0_1.length c0_1) := (blk_cell BK118.out 1).trans rfl
       have hcz24_2 : wr.cell? ⟨gb118, 2, none⟩ = some (.slice A0_2 l0_2.length c0_2) := (blk_cell BK118.out 2).trans rfl
       have hfz24_0 := blk_frozen BK118.out 0
       have hfz24_1 := blk_frozen BK118.out 1
       have hfz24_2 := blk_frozen BK118.out 2
       go_wp2
       go_ret3
       exact ⟨_, _, by first | rfl | (simp [errW_none, errW_some] <;> rfl) | (simp [*, errW_none, errW_some] <;> rfl), by (with_reducible repeat (first | apply Kd.R_alloc | apply Kd.R_drewN | apply Kd.R_drew)); exact HO_5.out, by (with_reducible repeat (first | apply Kd.R_alloc | apply Kd.R_drewN | apply Kd.R_drew)); exact HO_6.out, by repeat (first | (with_reducible first | exact HB.out | apply below_alloc | apply pw_below_drewN | apply below_drew1 | refine below_set ?_ GE118.out) | exact HB.out)⟩
end Go.Proofs.Yteeihjpnhjnknaa.GAll
namespace Go.Proofs.Yteeihjpnhjnknaa.GAll
open Go.RowKit Go.Proofs.YteeihjpnhjnknaaW.PrintWords Go.Proofs.YteeihjpnhjnknaaW.PrintLast Go.Proofs.YteeihjpnhjnknaaW.PrintMore
attribute [local go_sem] max2_int min2_int max_two min_two max_three min_three max_four min_four   -- for this text's walks alone
set_option linter.unusedVariables false
set_option linter.unusedSimpArgs false
def tangramref21_Best.l0 (a0 : Int) (l : List S89) (r : List (List Int)) : Nat → List Int → Int → Int → Nat → Option (List Int × Int × Int)
 | 0, _, _, _, _ => none
 | k + 1, b, t, n, i => if i < 2 * l.length then (tangramref21_Seen.f k a0 l r (i : Int)).bind fun u => (tangramref03_SameInts.f k u.1 b).bind fun s => (tangramref21_Less.f k u.1 b).bind fun x =>
     if x = true then tangramref21_Best.l0 a0 l r k u.1 (i : Int) 1 (i + 1) else if s = true then tangramref21_Best.l0 a0 l r k b t (IntKind.i64.wrap (n + 1)) (i + 1) else tangramref21_Best.l0 a0 l r k b t n (i + 1) else some (b, t, n)
def tangramref21_Best.f (k : Nat) (a0_0 : Int) (l0_1 : List S89) (l1 : List (List Int)) : Option (List Int × Int × Int) := if l0_1.length ≤ 4194304 then (tangramref21_Seen.f k a0_0 l0_1 l1 0).bind fun u => tangramref21_Best.l0 a0_0 l0_1 l1 k u.1 0 1 1 else none
theorem tangramref21_Best.mono_l (a0 : Int) (l : List S89) (r : List (List Int)) : ∀ k b t n i, LeO (tangramref21_Best.l0 a0 l r k b t n i) (tangramref21_Best.l0 a0 l r (k + 1) b t n i)
 | 0, _, _, _, _ => fun _ h => by simp [tangramref21_Best.l0] at h
 | k + 1, b, t, n, i => by
   unfold tangramref21_Best.l0
   exact LeO.ite (LeO.bind (tangramref21_Seen.mono _ _ _ _ _) (fun _ => LeO.bind (tangramref03_SameInts.mono _ _ _) (fun _ => LeO.bind (tangramref21_Less.mono _ _ _) (fun _ => LeO.ite (tangramref21_Best.mono_l a0 l r k _ _ _ _) (LeO.ite (tangramref21_Best.mono_l a0 l r k _ _ _ _) (tangramref21_Best.mono_l a0 l r k _ _ _ _)))))) (LeO.refl _)
theorem tangramref21_Best.mono : ∀ a0 a1 a2 k, LeO (tangramref21_Best.f k a0 a1 a2) (tangramref21_Best.f (k + 1) a0 a1 a2) := fun _ _ _ _ =>
 LeO.ite (LeO.bind (tangramref21_Seen.mono _ _ _ _ _) (fun _ => tangramref21_Best.mono_l _ _ _ _ _ _ _ _)) (LeO.refl _)
theorem tangramref21_Best.calls (k : Nat) (a0_0 : Int) (A0_1 : Option Addr) (c0_1 : Nat) (l0_1 : List (S89)) (A1 : Option Addr) (c1 : Nat) (l1 : List (List Int)) (r1 : List Int) (r2 : Int) (r3 : Int) (w : World) (hr0_1 : Kd.C k89 w A0_1 l0_1.length l0_1) (hc0_1 : l0_1.length ≤ c0_1) (hr1 : Kd.C (Kd.slice 3 (Kd.int .i64)) w A1 l1.length l1) (hc1 : l1.length ≤ c1) (h : tangramref21_Best.f k a0_0 l0_1 l1 = some (r1, r2, r3)) :
   Calls Try.prog 40 #[.agg #[.int .i64 a0_0, .slice A0_1 l0_1.length c0_1], .slice A1 l1.length c1] w fun e w' => ∃ v0_ : Value, e = .returned (.tuple #[v0_, .int .i64 r2, .int .i64 r3]) ∧ Kd.R (Kd.int .i64) 3 w' w.heap.size (fun _ => True) v0_ r1 ∧ Below w.heap.size w w' := by
 unfold tangramref21_Best.f at h
 by_cases hm : l0_1.length ≤ 4194304
 · rw [if_pos hm] at h
   obtain ⟨⟨cd, nm⟩, hs, h⟩ := Option.bind_eq_some_iff.mp h
   refine One.refbest_calls a0_0 A0_1 l0_1.length c0_1 _ w (r1, r2, r3) hm (fun b t n i => ∃ j, tangramref21_Best.l0 a0_0 l0_1 l1 j b t n i = some (r1, r2, r3)) ⟨cd, fun W hW => (tangramref21_Seen.calls _ a0_0 A0_1 c0_1 l0_1 A1 c1 l1 0 cd nm W (Kd.C_below hr0_1 hW) hc0_1 (Kd.C_below hr1 hW) hc1 hs).mono fun _ _ ⟨v0, v1, q1, q2, _, q4⟩ => ⟨v0, v1, q1, Kd.R_mono q2 (fun _ _ => trivial), q4⟩, k, h⟩ (fun b t n i hg => ?_)
   obtain ⟨j, hj⟩ := hg
   cases j with
   | zero => simp [tangramref21_Best.l0] at hj
   | succ j =>
     unfold tangramref21_Best.l0 at hj
     refine ⟨fun hi => ?_, fun hi => ?_⟩
     · rw [if_pos hi] at hj
       obtain ⟨⟨c, m⟩, g1, hj⟩ := Option.bind_eq_some_iff.mp hj
       obtain ⟨s, g2, hj⟩ := Option.bind_eq_some_iff.mp hj
       obtain ⟨x, g3, hj⟩ := Option.bind_eq_some_iff.mp hj
       refine ⟨c, s, x, fun W hW => (tangramref21_Seen.calls _ a0_0 A0_1 c0_1 l0_1 A1 c1 l1 (i : Int) c m W (Kd.C_below hr0_1 hW) hc0_1 (Kd.C_below hr1 hW) hc1 g1).mono fun _ _ ⟨v0, v1, q1, q2, _, q4⟩ => ⟨v0, v1, q1, Kd.R_mono q2 (fun _ _ => trivial), q4⟩, fun W A e B d s1 s2 s3 s4 => (tangramref03_SameInts.calls j A e c B d b s W s1 s2 s3 s4 g2).mono fun _ _ ⟨q1, q2⟩ => ⟨q1, q2.below⟩, fun W A e B d s1 s2 s3 s4 => (tangramref21_Less.calls j A e c B d b x W s1 s2 s3 s4 g3).mono fun _ _ ⟨q1, q2⟩ => ⟨q1, q2.below⟩, fun e => ?_, fun e e2 => ?_, fun e e2 => ?_⟩
       · rw [if_pos e] at hj; exact ⟨j, hj⟩
       · rw [if_neg (by rw [e]; decide), if_pos e2] at hj; exact ⟨j, hj⟩
       · rw [if_neg (by rw [e]; decide), if_neg (by rw [e2]; decide)] at hj; exact ⟨j, hj⟩
     · rw [if_neg hi] at hj
       exact (Option.some.inj hj).symm
 · rw [if_neg hm] at h; cases h
def tangramref21_Code.f (k : Nat) (a0_0 : Int) (l0_1 : List S89) (l1 : List (List Int)) : Option (List Int × Int) := (tangramref21_Fault.f k a0_0 l0_1 l1).bind fun t => if t = 0 then (tangramref21_Best.f k a0_0 l0_1 l1).bind fun u => some (u.1, 0) else some ([], t)
theorem tangramref21_Code.mono : ∀ a0 a1 a2 k, LeO (tangramref21_Code.f k a0 a1 a2) (tangramref21_Code.f (k + 1) a0 a1 a2) := fun _ _ _ _ =>
 LeO.bind (tangramref21_Fault.mono _ _ _ _) (fun _ => LeO.ite (LeO.bind (tangramref21_Best.mono _ _ _ _) (fun _ => LeO.refl _)) (LeO.refl _))
theorem tangramref21_Code.calls (k : Nat) (a0_0 : Int) (A0_1 : Option Addr) (c0_1 : Nat) (l0_1 : List (S89)) (A1 : Option Addr) (c1 : Nat) (l1 : List (List Int)) (r1 : List Int) (r2 : Int) (w : World) (hr0_1 : Kd.C k89 w A0_1 l0_1.length l0_1) (hc0_1 : l0_1.length ≤ c0_1) (hr1 : Kd.C (Kd.slice 3 (Kd.int .i64)) w A1 l1.length l1) (hc1 : l1.length ≤ c1) (h : tangramref21_Code.f k a0_0 l0_1 l1 = some (r1, r2)) :
   Calls Try.prog 17 #[.agg #[.int .i64 a0_0, .slice A0_1 l0_1.length c0_1], .slice A1 l1.length c1] w fun e w' => ∃ v0_ : Value, e = .returned (.tuple #[v0_, .int .i64 r2]) ∧ Kd.R (Kd.int .i64) 3 w' w.heap.size (fun _ => True) v0_ r1 ∧ Below w.heap.size w w' := by
 obtain ⟨e, ht, h⟩ := Option.bind_eq_some_iff.mp h
 refine One.refcode_calls a0_0 A0_1 l0_1.length c0_1 _ e w (fun W hW => tangramref21_Fault.calls k a0_0 A0_1 c0_1 l0_1 A1 c1 l1 e W (Kd.C_below hr0_1 hW) hc0_1 (Kd.C_below hr1 hW) hc1 ht) (r1, r2) (fun he => ?_) (fun he => ?_)
 · rw [if_neg he] at h
   exact (Option.some.inj h).symm
 · rw [if_pos he] at h
   obtain ⟨⟨cd, x, j⟩, hu, h⟩ := Option.bind_eq_some_iff.mp h
   obtain ⟨rfl, rfl⟩ : cd = r1 ∧ 0 = r2 := by simpa using h
   exact ⟨rfl, j, x, fun W hW => (tangramref21_Best.calls k a0_0 A0_1 c0_1 l0_1 A1 c1 l1 cd x j W (Kd.C_below hr0_1 hW) hc0_1 (Kd.C_below hr1 hW) hc1 hu).mono fun _ _ ⟨v0, q1, q2, q4⟩ => ⟨v0, q1, Kd.R_mono q2 (fun _ _ => trivial), q4⟩⟩
end Go.Proofs.Yteeihjpnhjnknaa.GAll
namespace Go.Proofs.Yteeihjpnhjnknaa.Rot
open Go.RowKit Go.Proofs.YteeihjpnhjnknaaW.PrintWords Go.Proofs.YteeihjpnhjnknaaW.PrintLast Go.Proofs.YteeihjpnhjnknaaW.PrintMore Go.Proofs.Yteeihjpnhjnknaa.GAll Go.Proofs.Yteeihjpnhjnknaa.Mem Go.Proofs.Yteeihjpnhjnknaa.Seen
set_option linter.unusedVariables false
set_option linter.unusedSimpArgs false
def bst (C : Nat → List Int) : Nat → Nat × Nat
 | 0 => (0, 1)
 | j + 1 => if ltB (C (j + 1)) (C (bst C j).1) = true then (j + 1, 1) else if ltB (C (bst C j).1) (C (j + 1)) = true then bst C j else ((bst C j).1, (bst C j).2 + 1)
theorem bst_le (C : Nat → List Int) : ∀ j, (bst C j).1 ≤ j ∧ (bst C j).2 ≤ j + 1
 | 0 => ⟨Nat.le_refl _, Nat.le_refl _⟩
 | j + 1 => by
   have := bst_le C j
   unfold bst
   split
   · exact ⟨Nat.le_refl _, by simp⟩
   · split
     · omega
     · simp only; omega
section
variable {n : Nat} {l : List Ed} {r : List (List Int)}
abbrev codes (n : Nat) (l : List Ed) (r : List (List Int)) (h : Nat) : List Int := (seenOf n l r h).cd
abbrev bestOf (n : Nat) (l : List Ed) (r : List (List Int)) : Nat × Nat := bst (codes n l r) (2 * l.length - 1)
theorem best_loop (h : IsMap n l r) (d : Nat) : ∀ j, j + 1 + d = 2 * l.length → ∀ b c, bst (codes n l r) j = (b, c) →
   Ev (fun k => canon_plane_best.l0 k (codes n l r b) (seenOf n l r b).ord (c : Int) ((j + 1 : Nat) : Int) (n : Int) (nxOf l r) (toOf l)) (codes n l r (bestOf n l r).1, (seenOf n l r (bestOf n l r).1).ord, ((bestOf n l r).2 : Int)) := by
 have hlen := h.len
 have hll := h.good.2.2.1
 induction d with
 | zero =>
   intro j hj b c hb
   have e : bestOf n l r = (b, c) := by rw [← hb]; unfold bestOf; congr 1; omega
   rw [e]
   refine Ev.step (f := fun _ => some _) (fun k => ?_) (Ev.now _)
   simp only [canon_plane_best.l0]
   rw [if_neg (by rw [hlen]; omega)]
 | succ d ih =>
   intro j hj b c hb
   have hle := bst_le (codes n l r) j
   rw [hb] at hle
   simp only at hle
   have hs : bst (codes n l r) (j + 1) = if ltB (codes n l r (j + 1)) (codes n l r b) = true then (j + 1, 1) else if ltB (codes n l r b) (codes n l r (j + 1)) = true then (b, c) else (b, c + 1) := by
     rw [bst, hb]
   have hI := ih (j + 1) (by omega)
   have c1 := code_ev h (root := j + 1) (by omega)
   have l1 := less_ev (a := codes n l r (j + 1)) (b := codes n l r b) (seen_cd h _)
   have l2 := less_ev (a := codes n l r b) (b := codes n l r (j + 1)) (seen_cd h _)
   refine Ev.step (f := fun k => (canon_plane_code.f k (n : Int) (nxOf l r) (toOf l) ((j + 1 : Nat) : Int)).bind fun bt => (canon_less_int.f k bt.1 (codes n l r b)).bind fun t => if t = true then canon_plane_best.l0 k bt.1 bt.2 ((1 : Nat) : Int) ((j + 1 + 1 : Nat) : Int) (n : Int) (nxOf l r) (toOf l) else (canon_less_int.f k (codes n l r b) bt.1).bind fun t2 => if t2 = true then canon_plane_best.l0 k (codes n l r b) (seenOf n l r b).ord (c : Int) ((j + 1 + 1 : Nat) : Int) (n : Int) (nxOf l r) (toOf l) else canon_plane_best.l0 k (codes n l r b) (seenOf n l r b).ord ((c + 1 : Nat) : Int) ((j + 1 + 1 : Nat) : Int) (n : Int) (nxOf l r) (toOf l)) (fun k => ?_) ?_
   · simp only [canon_plane_best.l0]
     rw [if_pos (by rw [hlen]; omega), w1 (i := j + 1) (by omega), w1 (i := c) (by omega)]
     rfl
   · refine Ev.bind c1 (Ev.bind l1 ?_)
     by_cases q1 : ltB (codes n l r (j + 1)) (codes n l r b) = true
     · rw [if_pos q1] at hs
       exact Ev.congr (fun k => if_pos q1) (hI _ _ hs)
     · rw [if_neg q1] at hs
       refine Ev.congr (fun k => if_neg q1) (Ev.bind l2 ?_)
       by_cases q2 : ltB (codes n l r b) (codes n l r (j + 1)) = true
       · rw [if_pos q2] at hs
         exact Ev.congr (fun k => if_pos q2) (hI _ _ hs)
       · rw [if_neg q2] at hs
         exact Ev.congr (fun k => if_neg q2) (hI _ _ hs)
theorem best_ev (h : IsMap n l r) (h0 : 0 < l.length) : Ev (fun k => canon_plane_best.f k (n : Int) (nxOf l r) (toOf l)) (codes n l r (bestOf n l r).1, (seenOf n l r (bestOf n l r).1).ord, ((bestOf n l r).2 : Int)) := by
 unfold canon_plane_best.f
 exact Ev.bind (code_ev h (root := 0) (by omega)) (best_loop h (2 * l.length - 1) 0 (by omega) 0 1 rfl)
theorem refbest_loop (h : IsMap n l r) (hc : Ev (fun k => tangramref11_Check.f k (n : Int) l r) (0, 0)) (d : Nat) : ∀ j, j + 1 + d = 2 * l.length → ∀ b c, bst (codes n l r) j = (b, c) →
   Ev (fun k => tangramref21_Best.l0 (n : Int) l r k (codes n l r b) (b : Int) (c : Int) (j + 1)) (codes n l r (bestOf n l r).1, ((bestOf n l r).1 : Int), ((bestOf n l r).2 : Int)) := by
 have hll := h.good.2.2.1
 induction d with
 | zero =>
   intro j hj b c hb
   have e : bestOf n l r = (b, c) := by rw [← hb]; unfold bestOf; congr 1; omega
   rw [e]
   refine Ev.step (f := fun _ => some _) (fun k => ?_) (Ev.now _)
   rw [tangramref21_Best.l0, if_neg (by omega)]
 | succ d ih =>
   intro j hj b c hb
   have hle := bst_le (codes n l r) j
   rw [hb] at hle
   simp only at hle
   have hs : bst (codes n l r) (j + 1) = if ltB (codes n l r (j + 1)) (codes n l r b) = true then (j + 1, 1) else if ltB (codes n l r b) (codes n l r (j + 1)) = true then (b, c) else (b, c + 1) := by
     rw [bst, hb]
   have hI := ih (j + 1) (by omega)
   have c1 := seen_ev h hc (root := j + 1) (by omega)
   have l1 := ints_ev (a := codes n l r (j + 1)) (b := codes n l r b) (seen_cd h _)
   have l2 := refless_ev (a := codes n l r (j + 1)) (b := codes n l r b) (seen_cd h _)
   have hw : IntKind.i64.wrap ((c : Int) + 1) = ((c + 1 : Nat) : Int) := by rw [IntWalk.i64_in _ (by omega)]; omega
   refine Ev.step (f := fun k => (tangramref21_Seen.f k (n : Int) l r ((j + 1 : Nat) : Int)).bind fun u => (tangramref03_SameInts.f k u.1 (codes n l r b)).bind fun s => (tangramref21_Less.f k u.1 (codes n l r b)).bind fun x =>
     if x = true then tangramref21_Best.l0 (n : Int) l r k u.1 ((j + 1 : Nat) : Int) ((1 : Nat) : Int) (j + 1 + 1) else if s = true then tangramref21_Best.l0 (n : Int) l r k (codes n l r b) (b : Int) ((c + 1 : Nat) : Int) (j + 1 + 1) else tangramref21_Best.l0 (n : Int) l r k (codes n l r b) (b : Int) (c : Int) (j + 1 + 1)) (fun k => ?_) ?_
   · rw [tangramref21_Best.l0, if_pos (by omega), hw]
     rfl
   · refine Ev.bind c1 (Ev.bind l1 (Ev.bind l2 ?_))
     by_cases q1 : ltB (codes n l r (j + 1)) (codes n l r b) = true
     · rw [if_pos q1] at hs
       exact Ev.congr (fun k => if_pos q1) (hI _ _ hs)
     · rw [if_neg q1] at hs
       by_cases q2 : ltB (codes n l r b) (codes n l r (j + 1)) = true
       · rw [if_pos q2] at hs
         exact Ev.congr (fun k => by rw [if_neg q1, if_neg (fun e => by rw [of_decide_eq_true e, ltB_self] at q2; cases q2)]) (hI _ _ hs)
       · rw [if_neg q2] at hs
         exact Ev.congr (fun k => by rw [if_neg q1, if_pos (decide_eq_true (ltB_eq _ _ (by simpa using q1) (by simpa using q2)))]) (hI _ _ hs)
theorem refbest_ev (h : IsMap n l r) (hc : Ev (fun k => tangramref11_Check.f k (n : Int) l r) (0, 0)) (h0 : 0 < l.length) : Ev (fun k => tangramref21_Best.f k (n : Int) l r) (codes n l r (bestOf n l r).1, ((bestOf n l r).1 : Int), ((bestOf n l r).2 : Int)) := by
 unfold tangramref21_Best.f
 refine Ev.congr (fun k => if_pos h.good.2.2.1) ?_
 exact Ev.bind (seen_ev h hc (root := 0) (by omega)) (refbest_loop h hc (2 * l.length - 1) 0 (by omega) 0 1 rfl)
end
end Go.Proofs.Yteeihjpnhjnknaa.Rot
namespace Go.Proofs.Yteeihjpnhjnknaa.Seen
open Go.RowKit Go.Proofs.YteeihjpnhjnknaaW.PrintWords Go.Proofs.Yteeihjpnhjnknaa.Mem
set_option linter.unusedVariables false
set_option linter.unusedSimpArgs false
def frm (tos : List Int) (h : Int) : Int := gi tos (tw h).toNat
def too (tos : List Int) (h : Int) : Int := gi tos h.toNat
structure Web (n : Nat) (nx tos : List Int) : Prop extends Fit n nx tos where
 inv : ∀ h : Nat, h < nx.length → tw (tw (h : Int)) = h
 fnext : ∀ h : Nat, h < nx.length → frm tos (gi nx h) = frm tos h
 around : ∀ x y : Nat, x < nx.length → y < nx.length → frm tos x = frm tos y → ∃ j, j < per nx (x : Int) ∧ it nx (x : Int) j = y
 conn : ∀ P : Nat → Prop, (∀ h : Nat, h < nx.length → P (frm tos h).toNat → P (too tos h).toNat) → ∀ a b, a < n → b < n → P a → P b
structure Inv (n : Nat) (tos : List Int) (s : St) : Prop where
 a : ∀ i, i < s.ord.length → gi s.num (gi s.ord i).toNat = (i : Int)
 b : ∀ v, v < n → 0 ≤ gi s.num v → ∃ i, i < s.ord.length ∧ gi s.num v = (i : Int) ∧ gi s.ord i = (v : Int)
 c : ∀ i, i < s.ent.length → frm tos (gi s.ent i) = gi s.ord i
structure Ext (s t : St) : Prop where
 num : ∀ v, 0 ≤ gi s.num v → gi t.num v = gi s.num v
 ent : ∃ x, t.ent = s.ent ++ x
 ord : ∃ x, t.ord = s.ord ++ x
theorem Ext.refl (s : St) : Ext s s := ⟨fun _ _ => rfl, ⟨[], by simp⟩, ⟨[], by simp⟩⟩
theorem Ext.trans {a b c : St} (h : Ext a b) (k : Ext b c) : Ext a c := by
 obtain ⟨x, hx⟩ := h.ent
 obtain ⟨y, hy⟩ := k.ent
 obtain ⟨u, hu⟩ := h.ord
 obtain ⟨v, hv⟩ := k.ord
 refine ⟨fun w hw => ?_, ⟨x ++ y, by rw [hy, hx, List.append_assoc]⟩, ⟨u ++ v, by rw [hv, hu, List.append_assoc]⟩⟩
 have := h.num w hw
 rw [k.num w (by rw [this]; exact hw), this]
theorem gi_pre {x y : List Int} {i : Nat} (h : i < x.length) : gi (x ++ y) i = gi x i := by
 unfold gi
 rw [List.getD_eq_getElem?_getD, List.getD_eq_getElem?_getD, List.getElem?_append_left h]
theorem Ext.gent {s t : St} (h : Ext s t) {i : Nat} (hi : i < s.ent.length) : gi t.ent i = gi s.ent i := by
 obtain ⟨x, hx⟩ := h.ent
 rw [hx, gi_pre hi]
theorem Ext.lent {s t : St} (h : Ext s t) : s.ent.length ≤ t.ent.length := by
 obtain ⟨x, hx⟩ := h.ent
 rw [hx, List.length_append]; omega
section
variable {n : Nat} {nx tos : List Int}
theorem step_ext (hf : Fit n nx tos) {s : St} (h : Ok n nx.length s) (q : Int) : Ext s (stepH tos s q) := by
 unfold stepH
 split
 · rename_i hn
   refine ⟨fun v hv => ?_, ⟨_, rfl⟩, ⟨_, rfl⟩⟩
   show gi (s.num.set _ _) v = _
   rw [gi_set, if_neg]
   rintro ⟨e, _⟩
   rw [e] at hn
   omega
 · exact ⟨fun _ _ => rfl, ⟨[], by simp⟩, ⟨[], by simp⟩⟩
theorem step_num (hf : Fit n nx tos) {s : St} (h : Ok n nx.length s) {q : Int} (h0 : 0 ≤ q) (h1 : q < (nx.length : Int)) :
   0 ≤ gi (stepH tos s q).num (too tos q).toNat ∧ (stepH tos s q).cd = s.cd ++ [gi (stepH tos s q).num (too tos q).toNat] := by
 obtain ⟨p, rfl⟩ := Int.eq_ofNat_of_zero_le h0
 have ht := hf.htos p (by omega)
 have hl : (gi tos ((p : Int)).toNat).toNat < s.num.length := by rw [h.num, Int.toNat_natCast]; omega
 unfold stepH too
 by_cases c : gi s.num (gi tos ((p : Int)).toNat).toNat < 0
 · rw [if_pos c]
   simp only
   rw [gi_set, if_pos ⟨rfl, hl⟩]
   exact ⟨by omega, rfl⟩
 · rw [if_neg c]
   exact ⟨Int.not_lt.1 c, rfl⟩
theorem step_inv (hw : Web n nx tos) {s : St} (h : Ok n nx.length s) (k : Inv n tos s) {q : Int} (h0 : 0 ≤ q) (h1 : q < (nx.length : Int)) : Inv n tos (stepH tos s q) := by
 obtain ⟨p, rfl⟩ := Int.eq_ofNat_of_zero_le h0
 have hp : p < nx.length := by omega
 have ht := hw.htos p hp
 unfold stepH
 rw [Int.toNat_natCast]
 by_cases c : gi s.num (gi tos p).toNat < 0
 · rw [if_pos c]
   have hl : (gi tos p).toNat < s.num.length := by rw [h.num]; omega
   have hE := h.ent
   refine ⟨fun i hi => ?_, fun v hv hn => ?_, fun i hi => ?_⟩
   · simp only [List.length_append, List.length_singleton] at hi
     simp only [gi_app, gi_set]
     by_cases d : i < s.ord.length
     · rw [if_pos d, if_neg, k.a i d]
       rintro ⟨e, _⟩
       have := k.a i d
       rw [← e] at this
       omega
     · obtain rfl : i = s.ord.length := by omega
       rw [if_neg d, if_pos rfl, if_pos ⟨rfl, hl⟩]
   · simp only [gi_set] at hn ⊢
     by_cases e : (gi tos p).toNat = v ∧ v < s.num.length
     · rw [if_pos e]
       refine ⟨s.ord.length, by simp, rfl, ?_⟩
       rw [gi_app, if_neg (by omega), if_pos rfl]; omega
     · rw [if_neg e] at hn ⊢
       obtain ⟨i, i1, i2, i3⟩ := k.b v hv hn
       exact ⟨i, by simp only [List.length_append]; omega, i2, by rw [gi_app, if_pos i1]; exact i3⟩
   · simp only [List.length_append, List.length_singleton] at hi
     simp only [gi_app]
     by_cases d : i < s.ent.length
     · rw [if_pos d, if_pos (by omega)]; exact k.c i d
     · rw [if_neg d, if_pos (by omega), if_neg (by omega), if_pos (by omega)]
       unfold frm
       rw [hw.inv p hp, Int.toNat_natCast]
 · rw [if_neg c]
   exact ⟨k.a, k.b, k.c⟩
theorem Inv.cd {s : St} (h : Inv n tos s) (c : List Int) : Inv n tos { s with cd := c } := ⟨h.a, h.b, h.c⟩
def rowTo (nx tos : List Int) (F : St) (h : Int) (j : Nat) : List Int := (List.range j).map fun t => gi F.num (too tos (it nx h t)).toNat
theorem turn_all (hw : Web n nx tos) {s : St} (h : Ok n nx.length s) (k : Inv n tos s) {q : Int} (h0 : 0 ≤ q) (h1 : q < (nx.length : Int)) : ∀ j, Inv n tos (turn nx tos s q j) ∧ Ext s (turn nx tos s q j) ∧ (∀ t, t < j → 0 ≤ gi (turn nx tos s q j).num (too tos (it nx q t)).toNat) ∧ ∀ F, Ext (turn nx tos s q j) F → (turn nx tos s q j).cd = s.cd ++ rowTo nx tos F q j
 | 0 => ⟨k, Ext.refl _, fun t ht => absurd ht (by omega), fun F _ => by simp [turn, rowTo]⟩
 | j + 1 => by
   obtain ⟨i1, i2, i3, i4⟩ := turn_all hw h k h0 h1 j
   have ho := h.turn hw.toFit h0 h1 j
   have hq := it_in hw.toFit h0 h1 j
   have e1 := step_ext hw.toFit ho (it nx q j)
   have e2 := step_num hw.toFit ho hq.1 hq.2
   refine ⟨step_inv hw ho i1 hq.1 hq.2, i2.trans e1, fun t ht => ?_, fun F hF => ?_⟩
   · show 0 ≤ gi (stepH tos (turn nx tos s q j) (it nx q j)).num _
     rcases Nat.lt_or_eq_of_le (Nat.le_of_lt_succ ht) with g | rfl
     · rw [e1.num _ (i3 t g)]; exact i3 t g
     · exact e2.1
   · show (stepH tos (turn nx tos s q j) (it nx q j)).cd = _
     have hF : Ext (stepH tos (turn nx tos s q j) (it nx q j)) F := hF
     rw [e2.2, i4 F (e1.trans hF)]
     unfold rowTo
     rw [List.range_succ, List.map_append, List.append_assoc, ← hF.num _ e2.1]
     rfl
def blk (row : List Int) : List Int := (row.length : Int) :: row
def rowF (nx tos : List Int) (F : St) (h : Int) : List Int := rowTo nx tos F h (per nx h)
theorem rowF_length (F : St) (h : Int) : (rowF nx tos F h).length = per nx h := by unfold rowF rowTo; simp
theorem vert_all (hw : Web n nx tos) {s : St} (h : Ok n nx.length s) (k : Inv n tos s) {q : Int} (h0 : 0 ≤ q) (h1 : q < (nx.length : Int)) :
   Inv n tos (vert nx tos s q) ∧ Ext s (vert nx tos s q) ∧ (∀ t, t < per nx q → 0 ≤ gi (vert nx tos s q).num (too tos (it nx q t)).toNat) ∧ ∀ F, Ext (vert nx tos s q) F → (vert nx tos s q).cd = s.cd ++ blk (rowF nx tos F q) := by
 obtain ⟨i1, i2, i3, i4⟩ := turn_all hw (h.cd []) (k.cd []) h0 h1 (per nx q)
 refine ⟨⟨i1.a, i1.b, i1.c⟩, ⟨i2.num, i2.ent, i2.ord⟩, i3, fun F hF => ?_⟩
 have := i4 F ⟨hF.num, hF.ent, hF.ord⟩
 show s.cd ++ ((per nx q : Nat) : Int) :: (turn nx tos { s with cd := [] } q (per nx q)).cd = _
 rw [this, List.nil_append]
 unfold blk
 rw [rowF_length]
 rfl
def Live (nx tos : List Int) (s : St) (k : Nat) : Prop := ∀ i, i < k → i < (upto nx tos s i).ent.length
structure Run (n : Nat) (nx tos : List Int) (s : St) (k : Nat) : Prop where
 ok : Ok n nx.length (upto nx tos s k)
 inv : Inv n tos (upto nx tos s k)
 ext : Ext s (upto nx tos s k)
 le : k ≤ (upto nx tos s k).ent.length
 met : ∀ i, i < k → ∀ t, t < per nx (gi (upto nx tos s k).ent i) → 0 ≤ gi (upto nx tos s k).num (too tos (it nx (gi (upto nx tos s k).ent i) t)).toNat
 cd : ∀ F, Ext (upto nx tos s k) F → (upto nx tos s k).cd = s.cd ++ (List.range k).flatMap fun i => blk (rowF nx tos F (gi F.ent i))
theorem run (hw : Web n nx tos) {s : St} (h : Ok n nx.length s) (g : Inv n tos s) : ∀ k, Live nx tos s k → Run n nx tos s k
 | 0, _ => ⟨h, g, Ext.refl _, Nat.zero_le _, fun i hi => absurd hi (by omega), fun F _ => by simp [upto]⟩
 | k + 1, hl => by
   have R := run hw h g k (fun i hi => hl i (by omega))
   have hk := hl k (by omega)
   have hq := R.ok.inE k hk
   obtain ⟨v1, v2, v3, v4⟩ := vert_all hw R.ok R.inv hq.1 hq.2
   have e := upto_go hk
   have hle := v2.lent
   refine ⟨h.upto hw.toFit _, by rw [e]; exact v1, by rw [e]; exact R.ext.trans v2, by rw [e]; omega, fun i hi t ht => ?_, fun F hF => ?_⟩
   · rw [e] at ht ⊢
     rcases Nat.lt_or_eq_of_le (Nat.le_of_lt_succ hi) with c | rfl
     · have e2 := v2.gent (i := i) (by omega)
       rw [e2] at ht ⊢
       have := R.met i c t ht
       rw [v2.num _ this]; exact this
     · have e2 := v2.gent (i := i) (by omega)
       rw [e2] at ht ⊢
       exact v3 t ht
   · rw [e] at hF ⊢
     rw [v4 F hF, R.cd F (v2.trans hF), List.range_succ, List.flatMap_append, List.append_assoc, ← (v2.trans hF).gent (i := k) (by omega)]
     simp
theorem ends (hw : Web n nx tos) {s : St} (h : Ok n nx.length s) (g : Inv n tos s) : ∃ k, k ≤ n ∧ Run n nx tos s k ∧ upto nx tos s n = upto nx tos s k ∧ (upto nx tos s k).ent.length = k := by
 have key : ∀ d k, k + d = n → Live nx tos s k → ∃ k, k ≤ n ∧ Run n nx tos s k ∧ upto nx tos s n = upto nx tos s k ∧ (upto nx tos s k).ent.length = k := by
   intro d
   induction d with
   | zero =>
     intro k hk hl
     obtain rfl : k = n := by omega
     have R := run hw h g k hl
     exact ⟨k, Nat.le_refl _, R, rfl, Nat.le_antisymm R.ok.le R.le⟩
   | succ d ih =>
     intro k hk hl
     by_cases c : k < (upto nx tos s k).ent.length
     · refine ih (k + 1) (by omega) (fun i hi => ?_)
       rcases Nat.lt_or_eq_of_le (Nat.le_of_lt_succ hi) with q | rfl
       · exact hl i q
       · exact c
     · have R := run hw h g k hl
       refine ⟨k, by omega, R, ?_, Nat.le_antisymm (by omega) R.le⟩
       have := upto_stop (nx := nx) (tos := tos) (s := s) (k := k) (by omega) (d + 1)
       rw [show n = k + (d + 1) by omega, this]
 exact key n 0 (by omega) (fun i hi => absurd hi (by omega))
structure Full (n : Nat) (nx tos : List Int) (root : Int) (F : St) : Prop where
 num : F.num.length = n
 ord : F.ord.length = n
 ent : F.ent.length = n
 inv : Inv n tos F
 pos : ∀ v, v < n → 0 ≤ gi F.num v
 inO : ∀ i, i < n → 0 ≤ gi F.ord i ∧ gi F.ord i < (n : Int)
 inE : ∀ i, i < n → 0 ≤ gi F.ent i ∧ gi F.ent i < (nx.length : Int)
 root : 0 < n ∧ gi F.ent 0 = root
 cd : F.cd = (List.range n).flatMap fun i => blk (rowF nx tos F (gi F.ent i))
theorem neg_none : ∀ (l : List Int), (∀ v, v < l.length → 0 ≤ gi l v) → neg l = 0
 | [], _ => rfl
 | a :: l, h => by
   have h1 : 0 ≤ a := h 0 (by simp)
   have h2 := neg_none l (fun v hv => h (v + 1) (by simp; omega))
   unfold neg at h2 ⊢
   rw [List.filter_cons_of_neg (by simpa using h1)]
   exact h2
theorem full (hw : Web n nx tos) {root : Nat} (hr : root < nx.length) : Full n nx tos (root : Int) (all n nx tos (root : Int)) := by
 have hv : 0 ≤ frm tos (root : Int) ∧ frm tos (root : Int) < (n : Int) := by
   have h1 := hw.htw root hr
   exact hw.htos _ (by omega)
 have hs : Ok n nx.length (start n tos (root : Int) (frm tos (root : Int))) := Ok.start (by omega) hv
 obtain ⟨v, hv2⟩ := Int.eq_ofNat_of_zero_le hv.1
 have hvn : v < n := by omega
 have hg : Inv n tos (start n tos (root : Int) (frm tos (root : Int))) := by
   unfold start
   rw [hv2, Int.toNat_natCast]
   refine ⟨fun i hi => ?_, fun u hu hn => ?_, fun i hi => ?_⟩
   · obtain rfl : i = 0 := by simpa using hi
     show gi ((List.replicate n (-1)).set v 0) ((v : Int)).toNat = 0
     rw [Int.toNat_natCast, gi_set, if_pos ⟨rfl, by simpa using hvn⟩]
   · simp only [gi_set] at hn ⊢
     by_cases e : v = u ∧ u < (List.replicate n (-1 : Int)).length
     · rw [if_pos e]
       exact ⟨0, by simp, rfl, by rw [e.1]; rfl⟩
     · rw [if_neg e] at hn
       unfold gi at hn
       rw [List.getD_eq_getElem?_getD, List.getElem?_replicate, if_pos hu] at hn
       exact absurd hn (by decide)
   · obtain rfl : i = 0 := by simpa using hi
     show frm tos (root : Int) = (v : Int)
     exact hv2
 obtain ⟨k, hk, R, e, hl⟩ := ends hw hs hg
 have hall : all n nx tos (root : Int) = upto nx tos (start n tos (root : Int) (frm tos (root : Int))) k := e
 have hE := R.ok.ent
 have hc := R.ok.cnt
 have h0 : 0 < k := by
   have := R.ext.lent
   have : (start n tos (root : Int) (frm tos (root : Int))).ent.length = 1 := rfl
   omega
 have hpos : ∀ u, u < n → 0 ≤ gi (upto nx tos (start n tos (root : Int) (frm tos (root : Int))) k).num u := by
   intro u hu
   have e0 := R.inv.a 0 (by omega)
   have o0 := R.ok.inO 0 (by omega)
   refine hw.conn (fun a => 0 ≤ gi (upto nx tos (start n tos (root : Int) (frm tos (root : Int))) k).num a) (fun h hh hP => ?_) (gi (upto nx tos (start n tos (root : Int) (frm tos (root : Int))) k).ord 0).toNat u (by omega) hu (by rw [e0]; omega)
   have hfr : 0 ≤ frm tos (h : Int) ∧ frm tos (h : Int) < (n : Int) := by
     have h1 := hw.htw h hh
     exact hw.htos _ (by omega)
   obtain ⟨i, i1, i2, i3⟩ := R.inv.b _ (by omega) hP
   have ic := R.inv.c i (by omega)
   rw [i3, Int.toNat_of_nonneg hfr.1] at ic
   obtain ⟨m1, m2⟩ := R.ok.inE i (by omega)
   obtain ⟨x, hx⟩ := Int.eq_ofNat_of_zero_le m1
   rw [hx] at ic m2
   obtain ⟨j, j1, j2⟩ := hw.around x h (by omega) hh ic
   have := R.met i (by omega) j (by rw [hx]; exact j1)
   rw [hx, j2] at this
   exact this
 have hz := neg_none _ (fun u hu => hpos u (by rw [R.ok.num] at hu; exact hu))
 have hkn : k = n := by omega
 rw [hall]
 subst hkn
 refine ⟨R.ok.num, by omega, hl, R.inv, hpos, fun i hi => R.ok.inO i (by omega), fun i hi => R.ok.inE i (by omega), ⟨h0, R.ext.gent (i := 0) (by show 0 < 1; omega)⟩, ?_⟩
 have := R.cd _ (Ext.refl _)
 exact this
theorem rows_eq : ∀ (X Y : List (List Int)), X.flatMap blk = Y.flatMap blk → X = Y
 | [], [], _ => rfl
 | [], y :: Y, h => by simp [blk] at h
 | x :: X, [], h => by simp [blk] at h
 | x :: X, y :: Y, h => by
   simp only [List.flatMap_cons, blk, List.cons_append, List.cons.injEq] at h
   obtain ⟨h1, h2⟩ := h
   obtain ⟨h3, h4⟩ := List.append_inj h2 (by omega)
   rw [h3, rows_eq X Y h4]
end
end Go.Proofs.Yteeihjpnhjnknaa.Seen
namespace Go.Proofs.Yteeihjpnhjnknaa.Rot
open Go.RowKit Go.Proofs.YteeihjpnhjnknaaW.PrintWords Go.Proofs.YteeihjpnhjnknaaW.PrintLast Go.Proofs.YteeihjpnhjnknaaW.PrintMore Go.Proofs.Yteeihjpnhjnknaa.GAll Go.Proofs.Yteeihjpnhjnknaa.Mem Go.Proofs.Yteeihjpnhjnknaa.Seen
set_option linter.unusedVariables false
set_option linter.unusedSimpArgs false
theorem numTo_one {m : List Nat} (h0 : Sets.gt m 0 ≤ 0) : ∀ k, 0 < k → 1 ≤ (Sets.numTo m k).2 ∧ ((Sets.numTo m k).2 = 1 → ∀ i, 0 < i → i < k → Sets.gt m i < i)
 | 0, h => absurd h (by omega)
 | 1, _ => by
   have e : (Sets.numTo m 1).2 = 1 := by rw [Sets.numTo_new (by omega)]; rfl
   exact ⟨by omega, fun _ i h1 h2 => by omega⟩
 | k + 2, _ => by
   obtain ⟨a, b⟩ := numTo_one h0 (k + 1) (by omega)
   by_cases c : Sets.gt m (k + 1) < k + 1
   · rw [Sets.numTo_old c]
     refine ⟨a, fun e i h1 h2 => ?_⟩
     rcases Nat.lt_or_eq_of_le (Nat.le_of_lt_succ h2) with q | rfl
     · exact b e i h1 q
     · exact c
   · rw [Sets.numTo_new c]
     exact ⟨by omega, fun e => by omega⟩
theorem part_zero {n : Nat} {E : Nat → Nat → Prop} {m : List Nat} (h : Sets.Part n E m) (hone : (Sets.numTo m n).2 = 1) {i : Nat} (hi : i < n) : Sets.gt m i = 0 := by
 obtain ⟨_, b⟩ := numTo_one (h.le 0 (by omega)) n (by omega)
 have e := h.idem hi
 by_cases z : Sets.gt m i = 0
 · exact z
 · have := b hone (Sets.gt m i) (by omega) (h.lt hi)
   omega
theorem Conn_prop {E : Nat → Nat → Prop} {P : Nat → Prop} (hP : ∀ a b, E a b → (P a ↔ P b)) {a b : Nat} (h : Sets.Conn E a b) : P a → P b := by
 induction h with
 | refl => exact id
 | fwd _ e ih => exact fun x => (hP _ _ e).1 (ih x)
 | bwd _ e ih => exact fun x => (hP _ _ e).2 (ih x)
section
variable {n : Nat} {l : List Ed} {r : List (List Int)}
theorem frm_frs (hg : PureV.Good (n : Int) l) {h : Nat} (hh : h < 2 * l.length) : frm (toOf l) (h : Int) = gi (frs l) h := (from_to hg hh).1.symm
theorem tw_tw {h : Nat} (hh : h ≤ 8388608) : tw (tw (h : Int)) = h := by
 rw [tw_nat (by omega)]
 by_cases c : h % 2 = 0
 · rw [if_pos c, tw_nat (by omega), if_neg (by omega)]; rfl
 · rw [if_neg c, tw_nat (by omega), if_pos (by omega)]; omega
theorem one_part (h : IsMap n l r) (hp : parts n l = 1) (P : Nat → Prop) (hP : ∀ h : Nat, h < (nxOf l r).length → P (frm (toOf l) h).toNat → P (too (toOf l) h).toNat) : ∀ a b, a < n → b < n → P a → P b := by
 intro a b ha hb
 have hpt := Sets.joinAll_part n (ends l)
 have hone : (Sets.numTo (Sets.joinAll (List.range n) (ends l)) n).2 = 1 := by
   have := hp
   unfold parts comps_Of.out at this
   rw [Int.toNat_natCast] at this
   exact this
 have hc := (hpt.iff ha hb).1 (by rw [part_zero hpt hone ha, part_zero hpt hone hb])
 refine Conn_prop (fun u v hE => ?_) hc
 obtain ⟨hu, hv, hm⟩ := hE
 obtain ⟨i, hi, e⟩ := List.getElem_of_mem hm
 have hil : i < l.length := by rw [ends_length] at hi; exact hi
 have hpe : pe (ends l) i = ((u : Int), (v : Int)) := by
   rw [← e]
   unfold pe
   rw [List.getD_eq_getElem?_getD, List.getElem?_eq_getElem hi]; rfl
 have f1 := froms_even (ends l) i hi
 have t1 := Graph.tos_two (ends l) i hi
 rw [hpe] at f1 t1
 have k1 := hP (2 * i) (by rw [h.len]; omega)
 have k2 := hP (2 * i + 1) (by rw [h.len]; omega)
 rw [frm_frs h.good (by omega)] at k1 k2
 have g1 : gi (frs l) (2 * i) = (u : Int) := f1.1
 have g2 : gi (frs l) (2 * i + 1) = (v : Int) := f1.2
 have g3 : too (toOf l) ((2 * i : Nat) : Int) = (v : Int) := by unfold too; rw [Int.toNat_natCast]; exact t1.1
 have g4 : too (toOf l) ((2 * i + 1 : Nat) : Int) = (u : Int) := by unfold too; rw [Int.toNat_natCast]; exact t1.2
 rw [g1, g3, Int.toNat_natCast, Int.toNat_natCast] at k1
 rw [g2, g4, Int.toNat_natCast, Int.toNat_natCast] at k2
 exact ⟨k1, k2⟩
theorem web (h : IsMap n l r) (hp : parts n l = 1) : Web n (nxOf l r) (toOf l) := by
 have hlen := h.len
 have hll := h.good.2.2.1
 have hfl := frs_length l
 have hx := nxOf_next h.rot
 refine { toFit := h.fit, inv := fun x hh => tw_tw (by omega), fnext := fun x hh => ?_, around := fun x y hh hy e => ?_, conn := one_part h hp }
 · obtain ⟨a, b, c⟩ := next_in h.rot hx (frs_in h.good) (show x < (frs l).length by omega)
   obtain ⟨y, hy⟩ := Int.eq_ofNat_of_zero_le a
   rw [frm_frs h.good (by omega), hy, frm_frs h.good (by omega)]
   rw [hy, Int.toNat_natCast] at c
   exact c
 · obtain ⟨v, j, h1, h2, h3, h4⟩ := h.rot.place (frs_in h.good) (show x < (frs l).length by omega)
   obtain ⟨u, i, g1, g2, g3, g4⟩ := h.rot.place (frs_in h.good) (show y < (frs l).length by omega)
   rw [frm_frs h.good (by omega), frm_frs h.good (by omega), h2, g2] at e
   obtain rfl : v = u := by omega
   have hper := per_row h.rot hx h1 h3
   rw [h4] at hper
   refine ⟨(i + (gl r v).length - j) % (gl r v).length, ?_, ?_⟩
   · rw [hper]; exact Nat.mod_lt _ (by omega)
   · rw [← h4, it_at h.rot hx h1 h3, Nat.add_mod_mod, show j + (i + (gl r v).length - j) = i + (gl r v).length by omega, Nat.add_mod_right, Nat.mod_eq_of_lt g3, g4]
theorem half_one (hg : PureV.Good (n : Int) l) {x y : Nat} (hx : x < 2 * l.length) (hy : y < 2 * l.length) (h1 : frm (toOf l) (x : Int) = frm (toOf l) (y : Int)) (h2 : too (toOf l) (x : Int) = too (toOf l) (y : Int)) : x = y := by
 have sorted : ∀ d i, i + d + 1 < l.length → PureV.lt (PureV.rdE l (i : Nat)) (PureV.rdE l ((i + d + 1 : Nat) : Int)) := by
   intro d
   induction d with
   | zero =>
     intro i hi
     have := (hg.2.2.2 (i + 0 + 1) hi).2 (by omega)
     exact this
   | succ d ih =>
     intro i hi
     have a := ih i (by omega)
     have b := (hg.2.2.2 (i + d + 1 + 1) (by omega)).2 (by omega)
     rw [show i + d + 1 + 1 - 1 = i + d + 1 by omega] at b
     unfold PureV.lt at a b ⊢
     rw [show i + (d + 1) + 1 = i + d + 1 + 1 by omega]
     omega
 have two : ∀ i, i < l.length → (frm (toOf l) ((2 * i : Nat) : Int) = (PureV.rdE l (i : Nat)).f0 ∧ too (toOf l) ((2 * i : Nat) : Int) = (PureV.rdE l (i : Nat)).f1) ∧ (frm (toOf l) ((2 * i + 1 : Nat) : Int) = (PureV.rdE l (i : Nat)).f1 ∧ too (toOf l) ((2 * i + 1 : Nat) : Int) = (PureV.rdE l (i : Nat)).f0) := by
   intro i hi
   have t1 := Graph.tos_two (ends l) i (by rw [ends_length]; exact hi)
   rw [pe_ends hi] at t1
   refine ⟨⟨by rw [frm_frs hg (by omega), frs_even hi], ?_⟩, by rw [frm_frs hg (by omega), frs_odd hi], ?_⟩
   · unfold too; rw [Int.toNat_natCast]; exact t1.1
   · unfold too; rw [Int.toNat_natCast]; exact t1.2
 have same : ∀ i j, i < l.length → j < l.length → (PureV.rdE l (i : Nat)).f0 = (PureV.rdE l (j : Nat)).f0 → (PureV.rdE l (i : Nat)).f1 = (PureV.rdE l (j : Nat)).f1 → i = j := by
   intro i j hi hj e1 e2
   rcases Nat.lt_trichotomy i j with c | c | c
   · have := sorted (j - i - 1) i (by omega)
     rw [show i + (j - i - 1) + 1 = j by omega] at this
     unfold PureV.lt at this; omega
   · exact c
   · have := sorted (i - j - 1) j (by omega)
     rw [show j + (i - j - 1) + 1 = i by omega] at this
     unfold PureV.lt at this; omega
 have ok : ∀ i, i < l.length → (PureV.rdE l (i : Nat)).f0 < (PureV.rdE l (i : Nat)).f1 := fun i hi => (hg.2.2.2 i hi).1.2.1
 have p1 := two (x / 2) (by omega)
 have p2 := two (y / 2) (by omega)
 have o1 := ok (x / 2) (by omega)
 have o2 := ok (y / 2) (by omega)
 rcases Nat.mod_two_eq_zero_or_one x with ex | ex <;> rcases Nat.mod_two_eq_zero_or_one y with ey | ey
 · rw [show x = 2 * (x / 2) by omega, show y = 2 * (y / 2) by omega, p1.1.1, p2.1.1] at h1
   rw [show x = 2 * (x / 2) by omega, show y = 2 * (y / 2) by omega, p1.1.2, p2.1.2] at h2
   have := same _ _ (by omega) (by omega) h1 h2
   omega
 · rw [show x = 2 * (x / 2) by omega, show y = 2 * (y / 2) + 1 by omega, p1.1.1, p2.2.1] at h1
   rw [show x = 2 * (x / 2) by omega, show y = 2 * (y / 2) + 1 by omega, p1.1.2, p2.2.2] at h2
   omega
 · rw [show x = 2 * (x / 2) + 1 by omega, show y = 2 * (y / 2) by omega, p1.2.1, p2.1.1] at h1
   rw [show x = 2 * (x / 2) + 1 by omega, show y = 2 * (y / 2) by omega, p1.2.2, p2.1.2] at h2
   omega
 · rw [show x = 2 * (x / 2) + 1 by omega, show y = 2 * (y / 2) + 1 by omega, p1.2.1, p2.2.1] at h1
   rw [show x = 2 * (x / 2) + 1 by omega, show y = 2 * (y / 2) + 1 by omega, p1.2.2, p2.2.2] at h2
   have := same _ _ (by omega) (by omega) h2 h1
   omega
end
end Go.Proofs.Yteeihjpnhjnknaa.Rot
namespace Go.Proofs.Yteeihjpnhjnknaa.GAll
open Go.RowKit Go.Proofs.YteeihjpnhjnknaaW.PrintWords Go.Proofs.YteeihjpnhjnknaaW.PrintLast Go.Proofs.YteeihjpnhjnknaaW.PrintMore
attribute [local go_sem] max2_int min2_int max_two min_two max_three min_three max_four min_four   -- for this text's walks alone
set_option linter.unusedVariables false
set_option linter.unusedSimpArgs false
def canon_Match.out (n1 : Int) (x y : List Int) : Option (List Int × Bool × Int) :=
 if (decide (0 ≤ n1 ∧ n1 ≤ 1048576 ∧ x.length ≤ y.length ∧ x.length ≤ 1048576) && x.all fun v => decide (0 ≤ v ∧ v < n1)) = true then some (Match.putL x y n1.toNat x.length, true, 0) else none
def canon_Match.both (k : Nat) (n1 : Int) (a b : Int × List Int × List Int × Int × Int) : Option (List Int × Bool × Int) :=
 (canon_plane_best.f k a.1 a.2.1 a.2.2.1).bind fun x => (canon_plane_best.f k b.1 b.2.1 b.2.2.1).bind fun y => (canon_less_int.f k x.1 y.1).bind fun s1 =>
   if s1 = true then some ([], false, 0) else (canon_less_int.f k y.1 x.1).bind fun s2 => if s2 = true then some ([], false, 0) else canon_Match.out n1 x.2.1 y.2.1
def canon_Match.f (k : Nat) (a0_0 : Int) (l0_1 : List S89) (l1 : List (List Int)) (a2_0 : Int) (l2_1 : List S89) (l3 : List (List Int)) : Option (List Int × Bool × Int) :=
 (canon_look.f k a0_0 l0_1 l1).bind fun a => (canon_look.f k a2_0 l2_1 l3).bind fun b =>
   if a.2.2.2.1 = 1 ∨ b.2.2.2.1 = 1 then some ([], false, 1) else if Match.firstE [a.2.2.2.1, b.2.2.2.1, a.2.2.2.2, b.2.2.2.2] = 0 then canon_Match.both k a0_0 a b else some ([], false, Match.firstE [a.2.2.2.1, b.2.2.2.1, a.2.2.2.2, b.2.2.2.2])
theorem canon_Match.mono : ∀ a0 a1 a2 a3 a4 a5 k, LeO (canon_Match.f k a0 a1 a2 a3 a4 a5) (canon_Match.f (k + 1) a0 a1 a2 a3 a4 a5) := by
 intro a0 a1 a2 a3 a4 a5 k
 unfold canon_Match.f
 refine LeO.bind (canon_look.mono _ _ _ _) (fun a => LeO.bind (canon_look.mono _ _ _ _) (fun b => LeO.ite (LeO.refl _) (LeO.ite ?_ (LeO.refl _))))
 unfold canon_Match.both
 refine LeO.bind (canon_plane_best.mono _ _ _ _) (fun x => LeO.bind (canon_plane_best.mono _ _ _ _) (fun y => LeO.bind (canon_less_int.mono _ _ _) (fun s => LeO.ite (LeO.refl _) ?_)))
 exact LeO.bind (canon_less_int.mono _ _ _) (fun s => LeO.refl _)
theorem canon_Match.looks {k : Nat} {n : Int} {A : Option Addr} {c : Nat} {l : List S89} {A1 : Option Addr} {c1 : Nat} {r : List (List Int)} {p : Int} {nx tl : List Int} {e a : Int} {w : World} (hr : Kd.C k89 w A l.length l) (hc : l.length ≤ c) (hr1 : Kd.C (Kd.slice 3 (Kd.int .i64)) w A1 r.length r) (hc1 : r.length ≤ c1) (h : canon_look.f k n l r = some (p, nx, tl, e, a)) :
   Match.LookSays #[.int .i64 n, .slice A l.length c] (.slice A1 r.length c1) p nx tl e a w := fun W hW =>
 (canon_look.calls k n A c l A1 c1 r p nx tl e a W (Kd.C_below hr hW) hc (Kd.C_below hr1 hW) hc1 h).mono fun e' w' ⟨v1, v2, h1, h2, h3, h4⟩ => by
   obtain ⟨B1, d1, e1, hd1, hC1⟩ := Kd.R_reads h2
   obtain ⟨B2, d2, e2, hd2, hC2⟩ := Kd.R_reads h3
   exact ⟨v1, v2, h1, ⟨B1, d1, B2, d2, e1, hd1, hC1, e2, hd2, hC2⟩, h4⟩
theorem canon_Match.bests {k : Nat} {n : Int} {nx tl cd od : List Int} {m : Int} (h : canon_plane_best.f k n nx tl = some (cd, od, m)) : Match.BestSays n nx tl cd od m := fun W A1 c1 A2 c2 h1 h2 h3 h4 =>
 (canon_plane_best.calls k n A1 c1 nx A2 c2 tl cd od m W h1 h2 h3 h4 h).mono fun e' w' ⟨v1, v2, h1, h2, h3, h4⟩ => by
   obtain ⟨B1, d1, e1, hd1, hC1⟩ := Kd.R_reads h2
   obtain ⟨B2, d2, e2, hd2, hC2⟩ := Kd.R_reads h3
   exact ⟨v1, v2, h1, ⟨B1, d1, B2, d2, e1, hd1, hC1, e2, hd2, hC2⟩, h4⟩
theorem canon_Match.lesses {k : Nat} {a b : List Int} {r : Bool} (h : canon_less_int.f k a b = some r) : Match.LessSays a b r := fun W A c B d h1 h2 h3 h4 =>
 (canon_less_int.calls k A c a B d b r W h1 h2 h3 h4 h).mono fun e' w' ⟨h1, h2⟩ => ⟨h1, h2.below⟩
set_option maxHeartbeats 1000000 in
theorem canon_Match.calls (k : Nat) (a0_0 : Int) (A0_1 : Option Addr) (c0_1 : Nat) (l0_1 : List (S89)) (A1 : Option Addr) (c1 : Nat) (l1 : List (List Int)) (a2_0 : Int) (A2_1 : Option Addr) (c2_1 : Nat) (l2_1 : List (S89)) (A3 : Option Addr) (c3 : Nat) (l3 : List (List Int)) (r1 : List Int) (r2 : Bool) (r3 : Int) (w : World) (hr0_1 : Kd.C k89 w A0_1 l0_1.length l0_1) (hc0_1 : l0_1.length ≤ c0_1) (hr1 : Kd.C (Kd.slice 3 (Kd.int .i64)) w A1 l1.length l1) (hc1 : l1.length ≤ c1) (hr2_1 : Kd.C k89 w A2_1 l2_1.length l2_1) (hc2_1 : l2_1.length ≤ c2_1) (hr3 : Kd.C (Kd.slice 3 (Kd.int .i64)) w A3 l3.length l3) (hc3 : l3.length ≤ c3) (h : canon_Match.f k a0_0 l0_1 l1 a2_0 l2_1 l3 = some (r1, r2, r3)) :
   Calls Try.prog 20 #[.agg #[.int .i64 a0_0, .slice A0_1 l0_1.length c0_1], .slice A1 l1.length c1, .agg #[.int .i64 a2_0, .slice A2_1 l2_1.length c2_1], .slice A3 l3.length c3] w fun e w' => ∃ v0_ : Value, e = .returned (.tuple #[v0_, .bool r2, .int .i64 r3]) ∧ Kd.R (Kd.int .i64) 3 w' w.heap.size (fun _ => True) v0_ r1 ∧ Below w.heap.size w w' := by
 obtain ⟨⟨p1, nx1, tl1, e1, a1⟩, hl1, h⟩ := Option.bind_eq_some_iff.mp h
 obtain ⟨⟨p2, nx2, tl2, e2, a2⟩, hl2, h⟩ := Option.bind_eq_some_iff.mp h
 simp only at h
 have s1 := canon_Match.looks hr0_1 hc0_1 hr1 hc1 hl1
 have s2 := canon_Match.looks hr2_1 hc2_1 hr3 hc3 hl2
 by_cases c0 : e1 = 1 ∨ e2 = 1
 · rw [if_pos c0] at h
   have hres : (([] : List Int), false, (1 : Int)) = (r1, r2, r3) := by simpa using h
   exact Match.match_calls a0_0 A0_1 l0_1.length c0_1 (.slice A1 l1.length c1) a2_0 A2_1 l2_1.length c2_1 (.slice A3 l3.length c3) p1 nx1 tl1 e1 a1 p2 nx2 tl2 e2 a2 [] [] [] [] 0 0 false false w s1 s2 (r1, r2, r3) (fun _ => hres.symm) (fun q => absurd c0 q) (fun q => absurd c0 q)
 · rw [if_neg c0] at h
   by_cases cf : Match.firstE [e1, e2, a1, a2] = 0
   · rw [if_pos cf] at h
     obtain ⟨⟨cd1, od1, k1⟩, hb1, h⟩ := Option.bind_eq_some_iff.mp h
     obtain ⟨⟨cd2, od2, k2⟩, hb2, h⟩ := Option.bind_eq_some_iff.mp h
     obtain ⟨ls1, hx1, h⟩ := Option.bind_eq_some_iff.mp h
     simp only at hx1 h hb1 hb2
     have key := fun (ls2 : Bool) (q : ls1 = false → Match.LessSays cd2 cd1 ls2) => Match.match_calls a0_0 A0_1 l0_1.length c0_1 (.slice A1 l1.length c1) a2_0 A2_1 l2_1.length c2_1 (.slice A3 l3.length c3) p1 nx1 tl1 e1 a1 p2 nx2 tl2 e2 a2 cd1 od1 cd2 od2 k1 k2 ls1 ls2 w s1 s2 (r1, r2, r3) (fun q => absurd q c0) (fun _ q => absurd cf q)
     cases ls1 with
     | true =>
       rw [if_pos rfl] at h
       have hres : (([] : List Int), false, (0 : Int)) = (r1, r2, r3) := by simpa using h
       exact key false (fun q => by cases q) (fun _ _ => ⟨canon_Match.bests hb1, canon_Match.bests hb2, canon_Match.lesses hx1, (fun q => by cases q), fun _ => hres.symm, (fun q => by cases q), (fun q => by cases q)⟩)
     | false =>
       rw [if_neg (by decide)] at h
       obtain ⟨ls2, hx2, h⟩ := Option.bind_eq_some_iff.mp h
       cases ls2 with
       | true =>
         rw [if_pos rfl] at h
         have hres : (([] : List Int), false, (0 : Int)) = (r1, r2, r3) := by simpa using h
         exact key true (fun _ => canon_Match.lesses hx2) (fun _ _ => ⟨canon_Match.bests hb1, canon_Match.bests hb2, canon_Match.lesses hx1, fun _ => canon_Match.lesses hx2, (fun q => by cases q), fun _ _ => hres.symm, (fun _ q => by cases q)⟩)
       | false =>
         rw [if_neg (by decide)] at h
         unfold canon_Match.out at h
         by_cases ho : (decide (0 ≤ a0_0 ∧ a0_0 ≤ 1048576 ∧ od1.length ≤ od2.length ∧ od1.length ≤ 1048576) && od1.all fun v => decide (0 ≤ v ∧ v < a0_0)) = true
         · rw [if_pos ho] at h
           rw [Bool.and_eq_true, decide_eq_true_eq, List.all_eq_true] at ho
           obtain ⟨⟨g1, g2, g3, g4⟩, g5⟩ := ho
           have hres : (Match.putL od1 od2 a0_0.toNat od1.length, true, (0 : Int)) = (r1, r2, r3) := by simpa using h
           refine key false (fun _ => canon_Match.lesses hx2) (fun _ _ => ⟨canon_Match.bests hb1, canon_Match.bests hb2, canon_Match.lesses hx1, fun _ => canon_Match.lesses hx2, fun q => (by cases q), fun _ q => (by cases q), fun _ _ => ⟨a0_0.toNat, by omega, by omega, g3, g4, fun i hi => ?_, hres.symm⟩⟩)
           have hm : Mem.gi od1 i ∈ od1 := by
             unfold Mem.gi
             rw [List.getD_eq_getElem?_getD, List.getElem?_eq_getElem hi]
             exact List.getElem_mem hi
           have := of_decide_eq_true (g5 _ hm)
           omega
         · rw [if_neg ho] at h; cases h
   · rw [if_neg cf] at h
     have hres : (([] : List Int), false, Match.firstE [e1, e2, a1, a2]) = (r1, r2, r3) := by simpa using h
     exact Match.match_calls a0_0 A0_1 l0_1.length c0_1 (.slice A1 l1.length c1) a2_0 A2_1 l2_1.length c2_1 (.slice A3 l3.length c3) p1 nx1 tl1 e1 a1 p2 nx2 tl2 e2 a2 [] [] [] [] 0 0 false false w s1 s2 (r1, r2, r3) (fun q => absurd q c0) (fun _ _ => hres.symm) (fun _ q => absurd q cf)
end Go.Proofs.Yteeihjpnhjnknaa.GAll
namespace Go.Proofs.Yteeihjpnhjnknaa.GAll
open Go.RowKit Go.Proofs.YteeihjpnhjnknaaW.PrintWords Go.Proofs.YteeihjpnhjnknaaW.PrintLast Go.Proofs.YteeihjpnhjnknaaW.PrintMore
attribute [local go_sem] max2_int min2_int max_two min_two max_three min_three max_four min_four   -- for this text's walks alone
set_option linter.unusedVariables false
set_option linter.unusedSimpArgs false
def tangramref21_pairFault.f (k : Nat) (a0_0 : Int) (l0_1 : List S89) (l1 : List (List Int)) (a2_0 : Int) (l2_1 : List S89) (l3 : List (List Int)) : Option Int :=
 (tangramref03_Valid.f k a0_0 l0_1).bind fun v => (tangramref03_Valid.f k a2_0 l2_1).bind fun u => if v = true then (if u = true then
   (tangramref11_Check.f k a0_0 l0_1 l1).bind fun t => if t.2 = 0 then (tangramref11_Check.f k a2_0 l2_1 l3).bind fun s => if s.2 = 0 then (tangramref21_Fault.f k a0_0 l0_1 l1).bind fun a => if a = 0 then tangramref21_Fault.f k a2_0 l2_1 l3 else some a else some s.2 else some t.2 else some 1) else some 1
theorem tangramref21_pairFault.mono : ∀ a0 a1 a2 a3 a4 a5 k, LeO (tangramref21_pairFault.f k a0 a1 a2 a3 a4 a5) (tangramref21_pairFault.f (k + 1) a0 a1 a2 a3 a4 a5) := fun _ _ _ _ _ _ _ =>
 LeO.bind (tangramref03_Valid.mono _ _ _) (fun _ => LeO.bind (tangramref03_Valid.mono _ _ _) (fun _ => LeO.ite (LeO.ite (LeO.bind (tangramref11_Check.mono _ _ _ _) (fun _ => LeO.ite (LeO.bind (tangramref11_Check.mono _ _ _ _) (fun _ => LeO.ite (LeO.bind (tangramref21_Fault.mono _ _ _ _) (fun _ => LeO.ite (tangramref21_Fault.mono _ _ _ _) (LeO.refl _))) (LeO.refl _))) (LeO.refl _))) (LeO.refl _)) (LeO.refl _)))
theorem tangramref21_pairFault.calls (k : Nat) (a0_0 : Int) (A0_1 : Option Addr) (c0_1 : Nat) (l0_1 : List (S89)) (A1 : Option Addr) (c1 : Nat) (l1 : List (List Int)) (a2_0 : Int) (A2_1 : Option Addr) (c2_1 : Nat) (l2_1 : List (S89)) (A3 : Option Addr) (c3 : Nat) (l3 : List (List Int)) (r : Int) (w : World) (hr0_1 : Kd.C k89 w A0_1 l0_1.length l0_1) (hc0_1 : l0_1.length ≤ c0_1) (hr1 : Kd.C (Kd.slice 3 (Kd.int .i64)) w A1 l1.length l1) (hc1 : l1.length ≤ c1) (hr2_1 : Kd.C k89 w A2_1 l2_1.length l2_1) (hc2_1 : l2_1.length ≤ c2_1) (hr3 : Kd.C (Kd.slice 3 (Kd.int .i64)) w A3 l3.length l3) (hc3 : l3.length ≤ c3) (h : tangramref21_pairFault.f k a0_0 l0_1 l1 a2_0 l2_1 l3 = some r) :
   Calls Try.prog 43 #[.agg #[.int .i64 a0_0, .slice A0_1 l0_1.length c0_1], .slice A1 l1.length c1, .agg #[.int .i64 a2_0, .slice A2_1 l2_1.length c2_1], .slice A3 l3.length c3] w fun e w' => e = .returned (.int .i64 r) ∧ Below w.heap.size w w' := by
 obtain ⟨v, hv, h⟩ := Option.bind_eq_some_iff.mp h
 obtain ⟨u, hu, h⟩ := Option.bind_eq_some_iff.mp h
 refine One.pair_calls a0_0 A0_1 l0_1.length c0_1 _ a2_0 A2_1 l2_1.length c2_1 _ w r ⟨v, u, fun W hW => tangramref03_Valid.calls k a0_0 A0_1 c0_1 l0_1 v W (Kd.C_below hr0_1 hW) hc0_1 hv, fun W hW => tangramref03_Valid.calls k a2_0 A2_1 c2_1 l2_1 u W (Kd.C_below hr2_1 hW) hc2_1 hu, fun e => ?_, fun e1 e2 => ?_, fun e1 e2 => ?_⟩
 · rw [e, if_neg (by decide)] at h; exact (Option.some.inj h).symm
 · rw [e1, e2, if_pos rfl, if_neg (by decide)] at h; exact (Option.some.inj h).symm
 · rw [e1, e2, if_pos rfl, if_pos rfl] at h
   obtain ⟨⟨x1, q1⟩, ht, h⟩ := Option.bind_eq_some_iff.mp h
   simp only at h
   refine ⟨x1, q1, fun W hW => tangramref11_Check.calls k a0_0 A0_1 c0_1 l0_1 A1 c1 l1 x1 q1 W (Kd.C_below hr0_1 hW) hc0_1 (Kd.C_below hr1 hW) hc1 ht, fun e => ?_, fun e => ?_⟩
   · rw [if_neg e] at h; exact (Option.some.inj h).symm
   · rw [if_pos e] at h
     obtain ⟨⟨x2, q2⟩, hs, h⟩ := Option.bind_eq_some_iff.mp h
     simp only at h
     refine ⟨x2, q2, fun W hW => tangramref11_Check.calls k a2_0 A2_1 c2_1 l2_1 A3 c3 l3 x2 q2 W (Kd.C_below hr2_1 hW) hc2_1 (Kd.C_below hr3 hW) hc3 hs, fun e => ?_, fun e => ?_⟩
     · rw [if_neg e] at h; exact (Option.some.inj h).symm
     · rw [if_pos e] at h
       obtain ⟨a, ha, h⟩ := Option.bind_eq_some_iff.mp h
       refine ⟨a, fun W hW => tangramref21_Fault.calls k a0_0 A0_1 c0_1 l0_1 A1 c1 l1 a W (Kd.C_below hr0_1 hW) hc0_1 (Kd.C_below hr1 hW) hc1 ha, fun e => ?_, fun e => ?_⟩
       · rw [if_neg e] at h; exact (Option.some.inj h).symm
       · rw [if_pos e] at h
         exact fun W hW => tangramref21_Fault.calls k a2_0 A2_1 c2_1 l2_1 A3 c3 l3 r W (Kd.C_below hr2_1 hW) hc2_1 (Kd.C_below hr3 hW) hc3 h
def tangramref21_Match.out (n1 n2 : Int) (m n : List Int) : Option (List Int × Bool × Int) := if 0 ≤ n1 ∧ n1 ≤ 1048576 ∧ 0 ≤ n2 ∧ n2 ≤ 1048576 ∧ m.length = n1.toNat ∧ n.length = n2.toNat then some (One.putR m n n1.toNat n2.toNat n1.toNat, true, 0) else none
def tangramref21_Match.f (k : Nat) (a0_0 : Int) (l0_1 : List S89) (l1 : List (List Int)) (a2_0 : Int) (l2_1 : List S89) (l3 : List (List Int)) : Option (List Int × Bool × Int) :=
 (tangramref21_pairFault.f k a0_0 l0_1 l1 a2_0 l2_1 l3).bind fun e => if e = 0 then (tangramref21_Best.f k a0_0 l0_1 l1).bind fun a => (tangramref21_Best.f k a2_0 l2_1 l3).bind fun b => (tangramref03_SameInts.f k a.1 b.1).bind fun z =>
   if z = true then (tangramref21_Seen.f k a0_0 l0_1 l1 a.2.1).bind fun m => (tangramref21_Seen.f k a2_0 l2_1 l3 b.2.1).bind fun n => tangramref21_Match.out a0_0 a2_0 m.2 n.2 else some ([], false, 0) else some ([], false, e)
theorem tangramref21_Match.mono : ∀ a0 a1 a2 a3 a4 a5 k, LeO (tangramref21_Match.f k a0 a1 a2 a3 a4 a5) (tangramref21_Match.f (k + 1) a0 a1 a2 a3 a4 a5) := fun _ _ _ _ _ _ _ =>
 LeO.bind (tangramref21_pairFault.mono _ _ _ _ _ _ _) (fun _ => LeO.ite (LeO.bind (tangramref21_Best.mono _ _ _ _) (fun _ => LeO.bind (tangramref21_Best.mono _ _ _ _) (fun _ => LeO.bind (tangramref03_SameInts.mono _ _ _) (fun _ => LeO.ite (LeO.bind (tangramref21_Seen.mono _ _ _ _ _) (fun _ => LeO.bind (tangramref21_Seen.mono _ _ _ _ _) (fun _ => LeO.refl _))) (LeO.refl _))))) (LeO.refl _))
theorem tangramref21_Match.calls (k : Nat) (a0_0 : Int) (A0_1 : Option Addr) (c0_1 : Nat) (l0_1 : List (S89)) (A1 : Option Addr) (c1 : Nat) (l1 : List (List Int)) (a2_0 : Int) (A2_1 : Option Addr) (c2_1 : Nat) (l2_1 : List (S89)) (A3 : Option Addr) (c3 : Nat) (l3 : List (List Int)) (r1 : List Int) (r2 : Bool) (r3 : Int) (w : World) (hr0_1 : Kd.C k89 w A0_1 l0_1.length l0_1) (hc0_1 : l0_1.length ≤ c0_1) (hr1 : Kd.C (Kd.slice 3 (Kd.int .i64)) w A1 l1.length l1) (hc1 : l1.length ≤ c1) (hr2_1 : Kd.C k89 w A2_1 l2_1.length l2_1) (hc2_1 : l2_1.length ≤ c2_1) (hr3 : Kd.C (Kd.slice 3 (Kd.int .i64)) w A3 l3.length l3) (hc3 : l3.length ≤ c3) (h : tangramref21_Match.f k a0_0 l0_1 l1 a2_0 l2_1 l3 = some (r1, r2, r3)) :
   Calls Try.prog 21 #[.agg #[.int .i64 a0_0, .slice A0_1 l0_1.length c0_1], .slice A1 l1.length c1, .agg #[.int .i64 a2_0, .slice A2_1 l2_1.length c2_1], .slice A3 l3.length c3] w fun e w' => ∃ v0_ : Value, e = .returned (.tuple #[v0_, .bool r2, .int .i64 r3]) ∧ Kd.R (Kd.int .i64) 3 w' w.heap.size (fun _ => True) v0_ r1 ∧ Below w.heap.size w w' := by
 obtain ⟨e, he, h⟩ := Option.bind_eq_some_iff.mp h
 refine One.refmatch_calls a0_0 A0_1 l0_1.length c0_1 _ a2_0 A2_1 l2_1.length c2_1 _ e w (r1, r2, r3) (fun W hW => tangramref21_pairFault.calls k a0_0 A0_1 c0_1 l0_1 A1 c1 l1 a2_0 A2_1 c2_1 l2_1 A3 c3 l3 e W (Kd.C_below hr0_1 hW) hc0_1 (Kd.C_below hr1 hW) hc1 (Kd.C_below hr2_1 hW) hc2_1 (Kd.C_below hr3 hW) hc3 he) (fun e0 => ?_) (fun e0 => ?_)
 · rw [if_neg e0] at h; exact (Option.some.inj h).symm
 · rw [if_pos e0] at h
   obtain ⟨⟨a, x, p⟩, ha, h⟩ := Option.bind_eq_some_iff.mp h
   obtain ⟨⟨b, y, q⟩, hb, h⟩ := Option.bind_eq_some_iff.mp h
   obtain ⟨z, hz, h⟩ := Option.bind_eq_some_iff.mp h
   refine ⟨a, x, p, b, y, q, z, fun W hW => (tangramref21_Best.calls k a0_0 A0_1 c0_1 l0_1 A1 c1 l1 a x p W (Kd.C_below hr0_1 hW) hc0_1 (Kd.C_below hr1 hW) hc1 ha).mono fun _ _ ⟨v0, q1, q2, q4⟩ => ⟨v0, q1, Kd.R_mono q2 (fun _ _ => trivial), q4⟩, fun W hW => (tangramref21_Best.calls k a2_0 A2_1 c2_1 l2_1 A3 c3 l3 b y q W (Kd.C_below hr2_1 hW) hc2_1 (Kd.C_below hr3 hW) hc3 hb).mono fun _ _ ⟨v0, q1, q2, q4⟩ => ⟨v0, q1, Kd.R_mono q2 (fun _ _ => trivial), q4⟩, fun W A c B d s1 s2 s3 s4 => (tangramref03_SameInts.calls k A c a B d b z W s1 s2 s3 s4 hz).mono fun _ _ ⟨q1, q2⟩ => ⟨q1, q2.below⟩, fun e => ?_, fun e => ?_⟩
   · rw [if_neg (by rw [e]; decide)] at h; exact (Option.some.inj h).symm
   · rw [if_pos e] at h
     obtain ⟨⟨cm, m⟩, hm, h⟩ := Option.bind_eq_some_iff.mp h
     obtain ⟨⟨cn, n⟩, hn, h⟩ := Option.bind_eq_some_iff.mp h
     unfold tangramref21_Match.out at h
     by_cases hf : 0 ≤ a0_0 ∧ a0_0 ≤ 1048576 ∧ 0 ≤ a2_0 ∧ a2_0 ≤ 1048576 ∧ m.length = a0_0.toNat ∧ n.length = a2_0.toNat
     · rw [if_pos hf] at h
       exact ⟨m, n, fun W hW => (tangramref21_Seen.calls k a0_0 A0_1 c0_1 l0_1 A1 c1 l1 x cm m W (Kd.C_below hr0_1 hW) hc0_1 (Kd.C_below hr1 hW) hc1 hm).mono fun _ _ ⟨v0, v1, q1, _, q3, q4⟩ => ⟨v0, v1, q1, Kd.R_mono q3 (fun _ _ => trivial), q4⟩, fun W hW => (tangramref21_Seen.calls k a2_0 A2_1 c2_1 l2_1 A3 c3 l3 y cn n W (Kd.C_below hr2_1 hW) hc2_1 (Kd.C_below hr3 hW) hc3 hn).mono fun _ _ ⟨v0, v1, q1, _, q3, q4⟩ => ⟨v0, v1, q1, Kd.R_mono q3 (fun _ _ => trivial), q4⟩, a0_0.toNat, a2_0.toNat, by omega, by omega, by omega, by omega, hf.2.2.2.2.1, hf.2.2.2.2.2, (Option.some.inj h).symm⟩
     · rw [if_neg hf] at h; cases h
end Go.Proofs.Yteeihjpnhjnknaa.GAll
namespace Go.Proofs.Yteeihjpnhjnknaa.Rot
open Go.RowKit Go.Proofs.YteeihjpnhjnknaaW.PrintWords Go.Proofs.YteeihjpnhjnknaaW.PrintLast Go.Proofs.YteeihjpnhjnknaaW.PrintMore Go.Proofs.Yteeihjpnhjnknaa.GAll Go.Proofs.Yteeihjpnhjnknaa.Mem Go.Proofs.Yteeihjpnhjnknaa.Seen
set_option linter.unusedVariables false
set_option linter.unusedSimpArgs false
theorem full_cd {n : Nat} {nx tos : List Int} {root : Int} {F : St} (h : Full n nx tos root F) : F.cd = ((List.range n).map fun i => rowF nx tos F (gi F.ent i)).flatMap blk := by
 rw [h.cd, List.flatMap_map]
theorem full_rows {n n' : Nat} {nx tos nx' tos' : List Int} {root root' : Int} {F F' : St} (h : Full n nx tos root F) (h' : Full n' nx' tos' root' F') (e : F.cd = F'.cd) : n = n' ∧ ∀ i, i < n → rowF nx tos F (gi F.ent i) = rowF nx' tos' F' (gi F'.ent i) := by
 rw [full_cd h, full_cd h'] at e
 have k := rows_eq _ _ e
 have hl := congrArg List.length k
 simp only [List.length_map, List.length_range] at hl
 subst hl
 refine ⟨rfl, fun i hi => ?_⟩
 have := congrArg (fun x => x[i]?) k
 simpa [hi] using this
theorem putL_at {n : Nat} {x y : List Int} (hx : ∀ i, i < n → 0 ≤ gi x i ∧ gi x i < (n : Int)) (hinj : ∀ i j, i < n → j < n → gi x i = gi x j → i = j) {i0 v : Nat} (h0 : i0 < n) (hv : gi x i0 = (v : Int)) : ∀ k, k ≤ n → gi (Match.putL x y n k) v = if i0 < k then gi y i0 else 0
 | 0, _ => by
   rw [if_neg (by omega)]
   unfold Match.putL gi
   rw [List.getD_eq_getElem?_getD, List.getElem?_replicate]
   split <;> rfl
 | k + 1, hk => by
   show gi ((Match.putL x y n k).set (gi x k).toNat (gi y k)) v = _
   have hvn := hx i0 h0
   rw [gi_set, putL_at hx hinj h0 hv k (by omega), Match.putL_length]
   by_cases e : k = i0
   · subst e
     rw [if_pos ⟨by omega, by omega⟩, if_pos (by omega)]
   · have := hx k (by omega)
     rw [if_neg (fun q => e (hinj k i0 (by omega) h0 (by rw [hv]; omega)))]
     by_cases c : i0 < k
     · rw [if_pos c, if_pos (by omega)]
     · rw [if_neg c, if_neg (by omega)]
theorem putM_at {m n out : List Int} {v u0 : Nat} (hv : v < out.length) {M : Nat} (h : ∀ u, u < M → (gi m v = gi n u ↔ u = u0)) : ∀ k, k ≤ M → gi (One.putM m n out v k) v = if u0 < k then (u0 : Int) else gi out v
 | 0, _ => by rw [if_neg (by omega)]; rfl
 | k + 1, hk => by
   have ih := putM_at hv h k (by omega)
   unfold One.putM
   by_cases e : gi m v = gi n k
   · rw [if_pos e, gi_set, One.putM_length, if_pos ⟨rfl, hv⟩]
     have := (h k (by omega)).1 e
     rw [if_pos (by omega), this]
   · rw [if_neg e, ih]
     have : k ≠ u0 := fun q => e ((h k (by omega)).2 q)
     by_cases c : u0 < k
     · rw [if_pos c, if_pos (by omega)]
     · rw [if_neg c, if_neg (by omega)]
theorem putM_far {m n out : List Int} {v w : Nat} (hw : w ≠ v) : ∀ k, gi (One.putM m n out v k) w = gi out w
 | 0 => rfl
 | k + 1 => by
   unfold One.putM
   split
   · rw [gi_set, if_neg (fun q => hw q.1.symm), putM_far hw k]
   · exact putM_far hw k
theorem putR_at {m n : List Int} {N M : Nat} {t : Nat → Nat} (h : ∀ v, v < N → t v < M ∧ ∀ u, u < M → (gi m v = gi n u ↔ u = t v)) {v : Nat} (hv : v < N) : ∀ k, k ≤ N → gi (One.putR m n N M k) v = if v < k then (t v : Int) else 0
 | 0, _ => by
   rw [if_neg (by omega)]
   unfold One.putR gi
   rw [List.getD_eq_getElem?_getD, List.getElem?_replicate]
   split <;> rfl
 | k + 1, hk => by
   have ih := putR_at h hv k (by omega)
   unfold One.putR
   by_cases e : k = v
   · subst e
     rw [putM_at (by rw [One.putR_length]; exact hv) (h k hv).2 M (Nat.le_refl _), if_pos (h k hv).1, if_pos (by omega)]
   · rw [putM_far (fun q => e q.symm), ih]
     by_cases c : v < k
     · rw [if_pos c, if_pos (by omega)]
     · rw [if_neg c, if_neg (by omega)]
theorem list_gi {x y : List Int} (hl : x.length = y.length) (h : ∀ v, v < x.length → gi x v = gi y v) : x = y := by
 refine List.ext_getElem hl (fun v h1 h2 => ?_)
 have := h v h1
 unfold gi at this
 rw [List.getD_eq_getElem?_getD, List.getD_eq_getElem?_getD, List.getElem?_eq_getElem h1, List.getElem?_eq_getElem h2] at this
 exact this
theorem full_inj {n : Nat} {nx tos : List Int} {root : Int} {F : St} (h : Full n nx tos root F) {i j : Nat} (hi : i < n) (hj : j < n) (e : gi F.ord i = gi F.ord j) : i = j := by
 have a := h.inv.a i (by rw [h.ord]; exact hi)
 have b := h.inv.a j (by rw [h.ord]; exact hj)
 rw [e, b] at a
 omega
theorem put_same {n : Nat} {nx tos nx' tos' : List Int} {root root' : Int} {F G : St} (h : Full n nx tos root F) (k : Full n nx' tos' root' G) : Match.putL F.ord G.ord n n = One.putR F.num G.num n n n := by
 refine list_gi (by rw [Match.putL_length, One.putR_length]) (fun v hv => ?_)
 rw [Match.putL_length] at hv
 have key : ∀ v, v < n → ∃ i, i < n ∧ gi F.num v = (i : Int) ∧ gi F.ord i = (v : Int) := fun v hv => by
   obtain ⟨i, i1, i2, i3⟩ := h.inv.b v hv (h.pos v hv)
   exact ⟨i, by rw [h.ord] at i1; exact i1, i2, i3⟩
 have kk : ∀ v, v < n → (fun v => (gi G.ord (gi F.num v).toNat).toNat) v < n ∧ ∀ u, u < n → (gi F.num v = gi G.num u ↔ u = (fun v => (gi G.ord (gi F.num v).toNat).toNat) v) := fun v hv => by
   obtain ⟨i, i1, i2, i3⟩ := key v hv
   have o := k.inO i i1
   simp only
   rw [i2, Int.toNat_natCast]
   refine ⟨by omega, fun u hu => ⟨fun e => ?_, fun e => ?_⟩⟩
   · obtain ⟨j, j1, j2, j3⟩ := k.inv.b u hu (k.pos u hu)
     rw [j2] at e
     obtain rfl : i = j := by omega
     rw [j3]; rfl
   · rw [e, k.inv.a i (by rw [k.ord]; exact i1)]
 obtain ⟨i, i1, i2, i3⟩ := key v hv
 rw [putL_at h.inO (fun i j a b c => full_inj h a b c) i1 i3 n (Nat.le_refl _), putR_at kk hv n (Nat.le_refl _), if_pos i1, if_pos hv]
 rw [i2, Int.toNat_natCast]
 have := k.inO i i1
 omega
structure Sum (n : Int) (l : List Ed) (r : List (List Int)) (p : Int) (nx tl : List Int) (e a v : Int) : Prop where
 look : Ev (fun k => canon_look.f k n l r) (p, nx, tl, e, a)
 check : Ev (fun k => tangramref11_Check.f k n l r) (v, e)
 one : e = 1 ↔ ¬ PureV.Good n l
 fault : e = 0 → Ev (fun k => tangramref21_Fault.f k n l r) a
 fine : e = 0 → a = 0 → ∃ N : Nat, n = N ∧ p = N ∧ nx = nxOf l r ∧ tl = toOf l ∧ v = 0 ∧ IsMap N l r ∧ parts N l = 1 ∧ 0 < l.length
theorem sum (n : Int) (l : List Ed) (r : List (List Int)) (hs : Small r) : ∃ p nx tl e a v, Sum n l r p nx tl e a v := by
 cases case n l r hs with
 | bad v e h0 h1 hl hc hf => exact ⟨_, _, _, _, _, v, hl, hc, h1, fun q => absurd q h0, fun q => absurd q h0⟩
 | apart hg hl hc hf => exact ⟨_, _, _, _, _, _, hl, hc, ⟨fun q => absurd q (by decide), fun q => absurd hg q⟩, fun _ => hf, fun _ q => absurd q (by decide)⟩
 | fine N hN hm hp h0 hl hc hf => exact ⟨_, _, _, _, _, _, hl, hc, ⟨fun q => absurd q (by decide), fun q => absurd (by rw [hN]; exact hm.good) q⟩, fun _ => hf, fun _ _ => ⟨N, hN, hN, rfl, rfl, rfl, hm, hp, h0⟩⟩
section
variable {n1 : Int} {l1 : List Ed} {r1 : List (List Int)} {n2 : Int} {l2 : List Ed} {r2 : List (List Int)} {p1 : Int} {nx1 tl1 : List Int} {e1 a1 v1 p2 : Int} {nx2 tl2 : List Int} {e2 a2 v2 : Int}
def errOf (e1 e2 a1 a2 : Int) : Int := if e1 = 1 ∨ e2 = 1 then 1 else Match.firstE [e1, e2, a1, a2]
theorem pair_ev (s1 : Sum n1 l1 r1 p1 nx1 tl1 e1 a1 v1) (s2 : Sum n2 l2 r2 p2 nx2 tl2 e2 a2 v2) : Ev (fun k => tangramref21_pairFault.f k n1 l1 r1 n2 l2 r2) (errOf e1 e2 a1 a2) := by
 obtain ⟨b1, _, h1, g1⟩ := PureV.valid n1 l1
 obtain ⟨b2, _, h2, g2⟩ := PureV.valid n2 l2
 unfold tangramref21_pairFault.f errOf
 refine Ev.bind h1 (Ev.bind h2 ?_)
 cases b1 with
 | false =>
   have : e1 = 1 := s1.one.2 (fun q => absurd (g1.2 q) (by decide))
   rw [if_pos (.inl this)]
   exact Ev.congr (fun k => if_neg (by decide)) (Ev.now _)
 | true =>
   cases b2 with
   | false =>
     have : e2 = 1 := s2.one.2 (fun q => absurd (g2.2 q) (by decide))
     rw [if_pos (.inr this)]
     exact Ev.congr (fun k => by rw [if_pos rfl, if_neg (by decide)]) (Ev.now _)
   | true =>
     have k1 : e1 ≠ 1 := fun q => s1.one.1 q (g1.1 rfl)
     have k2 : e2 ≠ 1 := fun q => s2.one.1 q (g2.1 rfl)
     rw [if_neg (fun q => q.elim k1 k2)]
     refine Ev.congr (fun k => by rw [if_pos rfl, if_pos rfl]) (Ev.bind s1.check ?_)
     unfold Match.firstE
     by_cases z1 : e1 = 0
     · rw [if_pos z1]
       refine Ev.congr (fun k => if_pos z1) (Ev.bind s2.check ?_)
       unfold Match.firstE
       by_cases z2 : e2 = 0
       · rw [if_pos z2]
         refine Ev.congr (fun k => if_pos z2) (Ev.bind (s1.fault z1) ?_)
         unfold Match.firstE
         by_cases z3 : a1 = 0
         · rw [if_pos z3]
           refine Ev.congr (fun k => if_pos z3) ?_
           have := s2.fault z2
           unfold Match.firstE Match.firstE
           by_cases z4 : a2 = 0
           · rw [if_pos z4, ← z4]; exact this
           · rw [if_neg z4]; exact this
         · rw [if_neg z3]
           exact Ev.congr (fun k => if_neg z3) (Ev.now _)
       · rw [if_neg z2]
         exact Ev.congr (fun k => if_neg z2) (Ev.now _)
     · rw [if_neg z1]
       exact Ev.congr (fun k => if_neg z1) (Ev.now _)
theorem errOf_zero (h : errOf e1 e2 a1 a2 = 0) : ¬ (e1 = 1 ∨ e2 = 1) ∧ Match.firstE [e1, e2, a1, a2] = 0 ∧ e1 = 0 ∧ e2 = 0 ∧ a1 = 0 ∧ a2 = 0 := by
 unfold errOf at h
 by_cases c : e1 = 1 ∨ e2 = 1
 · rw [if_pos c] at h; exact absurd h (by decide)
 · rw [if_neg c] at h
   refine ⟨c, h, ?_⟩
   simp only [Match.firstE] at h
   by_cases z1 : e1 = 0
   · rw [if_pos z1] at h
     by_cases z2 : e2 = 0
     · rw [if_pos z2] at h
       by_cases z3 : a1 = 0
       · rw [if_pos z3] at h
         by_cases z4 : a2 = 0
         · exact ⟨z1, z2, z3, z4⟩
         · rw [if_neg z4] at h; exact absurd h z4
       · rw [if_neg z3] at h; exact absurd h z3
     · rw [if_neg z2] at h; exact absurd h z2
   · rw [if_neg z1] at h; exact absurd h z1
theorem match_both (n1 : Int) (l1 : List Ed) (r1 : List (List Int)) (n2 : Int) (l2 : List Ed) (r2 : List (List Int)) (hs1 : Small r1) (hs2 : Small r2) :
   ∃ o z e, Ev (fun k => canon_Match.f k n1 l1 r1 n2 l2 r2) (o, z, e) ∧ Ev (fun k => tangramref21_Match.f k n1 l1 r1 n2 l2 r2) (o, z, e) ∧ o.length ≤ 9000000000000000 := by
 obtain ⟨p1, nx1, tl1, e1, a1, v1, s1⟩ := sum n1 l1 r1 hs1
 obtain ⟨p2, nx2, tl2, e2, a2, v2, s2⟩ := sum n2 l2 r2 hs2
 have hp := pair_ev s1 s2
 unfold canon_Match.f tangramref21_Match.f
 by_cases h0 : errOf e1 e2 a1 a2 = 0
 · rw [h0] at hp
   obtain ⟨c, hfe, z1, z2, z3, z4⟩ := errOf_zero h0
   obtain ⟨N, rfl, rfl, rfl, rfl, rfl, hm, hpt, hl0⟩ := s1.fine z1 z3
   obtain ⟨M, rfl, rfl, rfl, rfl, rfl, km, kpt, kl0⟩ := s2.fine z2 z4
   have hc1 := s1.check
   have hc2 := s2.check
   rw [z1] at hc1
   rw [z2] at hc2
   have b1 := best_ev hm hl0
   have b2 := best_ev km kl0
   have c1 := refbest_ev hm hc1 hl0
   have c2 := refbest_ev km hc2 kl0
   have hb1 := (bst_le (codes N l1 r1) (2 * l1.length - 1)).1
   have hb2 := (bst_le (codes M l2 r2) (2 * l2.length - 1)).1
   have F1 := full (web hm hpt) (root := (bestOf N l1 r1).1) (by rw [hm.len]; unfold bestOf; omega)
   have F2 := full (web km kpt) (root := (bestOf M l2 r2).1) (by rw [km.len]; unfold bestOf; omega)
   have q1 := less_ev (a := codes N l1 r1 (bestOf N l1 r1).1) (b := codes M l2 r2 (bestOf M l2 r2).1) (seen_cd hm _)
   have q2 := less_ev (a := codes M l2 r2 (bestOf M l2 r2).1) (b := codes N l1 r1 (bestOf N l1 r1).1) (seen_cd km _)
   have q3 := ints_ev (a := codes N l1 r1 (bestOf N l1 r1).1) (b := codes M l2 r2 (bestOf M l2 r2).1) (seen_cd hm _)
   have hprog : ∀ {x}, Ev (fun k => canon_Match.both k (N : Int) ((N : Int), nxOf l1 r1, toOf l1, e1, a1) ((M : Int), nxOf l2 r2, toOf l2, e2, a2)) x → Ev (fun k => (canon_look.f k (N : Int) l1 r1).bind fun a => (canon_look.f k (M : Int) l2 r2).bind fun b => if a.2.2.2.1 = 1 ∨ b.2.2.2.1 = 1 then some ([], false, 1) else if Match.firstE [a.2.2.2.1, b.2.2.2.1, a.2.2.2.2, b.2.2.2.2] = 0 then canon_Match.both k (N : Int) a b else some ([], false, Match.firstE [a.2.2.2.1, b.2.2.2.1, a.2.2.2.2, b.2.2.2.2])) x := fun h =>
     Ev.bind s1.look (Ev.bind s2.look (Ev.congr (fun k => by rw [if_neg c, if_pos hfe]) h))
   by_cases e : codes N l1 r1 (bestOf N l1 r1).1 = codes M l2 r2 (bestOf M l2 r2).1
   · obtain ⟨rfl, _⟩ := full_rows F1 F2 e
     have hn := hm.good.2.1
     have w1 := seen_ev hm hc1 (root := (bestOf N l1 r1).1) (by unfold bestOf; omega)
     have w2 := seen_ev km hc2 (root := (bestOf N l2 r2).1) (by unfold bestOf; omega)
     have hlen : (seenOf N l1 r1 (bestOf N l1 r1).1).ord.length = N := F1.ord
     have hlen2 : (seenOf N l2 r2 (bestOf N l2 r2).1).ord.length = N := F2.ord
     have hm1 : (seenOf N l1 r1 (bestOf N l1 r1).1).num.length = N := F1.num
     have hm2 : (seenOf N l2 r2 (bestOf N l2 r2).1).num.length = N := F2.num
     have out1 : canon_Match.out (N : Int) (seenOf N l1 r1 (bestOf N l1 r1).1).ord (seenOf N l2 r2 (bestOf N l2 r2).1).ord = some (One.putR (seenOf N l1 r1 (bestOf N l1 r1).1).num (seenOf N l2 r2 (bestOf N l2 r2).1).num N N N, true, 0) := by
       unfold canon_Match.out
       rw [hlen, hlen2, if_pos, Int.toNat_natCast, put_same F1 F2]
       rw [Bool.and_eq_true, decide_eq_true_eq, List.all_eq_true]
       refine ⟨⟨by omega, by omega, Nat.le_refl _, by omega⟩, fun x hx => ?_⟩
       obtain ⟨i, hi, rfl⟩ := List.getElem_of_mem hx
       have := F1.inO i (by rw [← hlen]; exact hi)
       have e3 : gi (seenOf N l1 r1 (bestOf N l1 r1).1).ord i = (seenOf N l1 r1 (bestOf N l1 r1).1).ord[i] := gi_get hi
       rw [← e3]
       exact decide_eq_true this
     have out2 : tangramref21_Match.out (N : Int) (N : Int) (seenOf N l1 r1 (bestOf N l1 r1).1).num (seenOf N l2 r2 (bestOf N l2 r2).1).num = some (One.putR (seenOf N l1 r1 (bestOf N l1 r1).1).num (seenOf N l2 r2 (bestOf N l2 r2).1).num N N N, true, 0) := by
       unfold tangramref21_Match.out
       rw [if_pos ⟨by omega, by omega, by omega, by omega, by rw [hm1]; rfl, by rw [hm2]; rfl⟩]
       rfl
     refine ⟨_, true, 0, hprog (x := (One.putR (seenOf N l1 r1 (bestOf N l1 r1).1).num (seenOf N l2 r2 (bestOf N l2 r2).1).num N N N, true, 0)) ?_, ?_, by rw [One.putR_length]; omega⟩
     · unfold canon_Match.both
       refine Ev.bind b1 ?_
       refine Ev.bind b2 ?_
       refine Ev.bind q1 ?_
       refine Ev.congr (fun k => if_neg (by rw [e, ltB_self]; decide)) ?_
       refine Ev.bind q2 ?_
       refine Ev.congr (fun k => if_neg (by rw [e, ltB_self]; decide)) ?_
       exact Ev.congr (fun k => out1) (Ev.now _)
     · refine Ev.bind hp ?_
       refine Ev.congr (fun k => if_pos rfl) ?_
       refine Ev.bind c1 ?_
       refine Ev.bind c2 ?_
       refine Ev.bind q3 ?_
       refine Ev.congr (fun k => if_pos (decide_eq_true e)) ?_
       refine Ev.bind w1 ?_
       refine Ev.bind w2 ?_
       exact Ev.congr (fun k => out2) (Ev.now _)
   · rw [decide_eq_false e] at q3
     refine ⟨[], false, 0, hprog ?_, Ev.bind hp (Ev.congr (fun k => if_pos rfl) (Ev.bind c1 (Ev.bind c2 (Ev.bind q3 (Ev.congr (fun k => if_neg (by decide)) (Ev.now _)))))), by simp⟩
     unfold canon_Match.both
     refine Ev.bind b1 (Ev.bind b2 (Ev.bind q1 ?_))
     by_cases w1 : ltB (codes N l1 r1 (bestOf N l1 r1).1) (codes M l2 r2 (bestOf M l2 r2).1) = true
     · exact Ev.congr (fun k => if_pos w1) (Ev.now _)
     · refine Ev.congr (fun k => if_neg w1) (Ev.bind q2 ?_)
       refine Ev.congr (fun k => if_pos ?_) (Ev.now _)
       cases w2 : ltB (codes M l2 r2 (bestOf M l2 r2).1) (codes N l1 r1 (bestOf N l1 r1).1) with
       | true => rfl
       | false => exact absurd (ltB_eq _ _ (by simpa using w1) w2) e
 · refine ⟨[], false, errOf e1 e2 a1 a2, Ev.bind s1.look (Ev.bind s2.look (Ev.congr (fun k => ?_) (Ev.now _))), Ev.bind hp (Ev.congr (fun k => if_neg h0) (Ev.now _)), by simp⟩
   unfold errOf at h0 ⊢
   by_cases c : e1 = 1 ∨ e2 = 1
   · rw [if_pos c, if_pos c]
   · rw [if_neg c] at h0
     rw [if_neg c, if_neg h0, if_neg c]
end
end Go.Proofs.Yteeihjpnhjnknaa.Rot
namespace Go.Proofs.Yteeihjpnhjnknaa.Open
open Go.RowKit Go.Proofs.YteeihjpnhjnknaaW.PrintWords Go.Proofs.YteeihjpnhjnknaaW.PrintLast Go.Proofs.YteeihjpnhjnknaaW.PrintMore Go.ChangeShapes Go.WideShapes Go.Deep
set_option linter.unusedVariables false
set_option linter.unusedSimpArgs false
def I64 (n : Int) : Prop := -9223372036854775808 ≤ n ∧ n ≤ 9223372036854775807
def Opens {α : Type} (P : Program) (t : TypeId) (d : Kd α) (good : α → Prop) : Prop :=
 ∀ {H : Type} (enc : TypeId × Value → H) (w : World) (fuel : Nat) (cs : List Value) (x : DataW H × List MemPlace),
   DataW.trod enc P w 0 (fun _ => true) true fuel t cs = some x → (x.1.weights P t).all (· ≤ reachBytes) = true → ∃ v, d.K w v cs ∧ good v
section
variable {P : Program} {α β : Type}
theorem opens_int {t : TypeId} (ht : P.underlying t = some (.int .i64)) : Opens P t (Kd.int .i64) I64 := by
 intro H enc w fuel cs x h _
 obtain ⟨n, rfl, _, hw⟩ := DataW.trod_int ht h
 refine ⟨n, rfl, ?_⟩
 have hmin : IntKind.i64.min = -9223372036854775808 := rfl
 have hmax : IntKind.i64.max = 9223372036854775807 := rfl
 simp only [Lit.wf, Bool.and_eq_true, decide_eq_true_eq] at hw
 unfold I64; omega
theorem weightsAll_mem {H : Type} {e : TypeId} {l : List (DataW H)} (h : (DataW.weightsAll P e l).all (· ≤ reachBytes) = true) {d : DataW H} (hd : d ∈ l) : (d.weights P e).all (· ≤ reachBytes) = true := by
 induction l with
 | nil => cases hd
 | cons a l ih =>
   unfold DataW.weightsAll at h
   rw [List.all_append, Bool.and_eq_true] at h
   rcases List.mem_cons.1 hd with rfl | hd
   · exact h.1
   · exact ih h.2 hd
theorem opens_slice {t e : TypeId} {d : Kd α} {good : α → Prop} {B : Nat} (ht : P.underlying t = some (.slice e)) (hc : P.cellsOf e = d.sz) (hB : P.bytesOf e = B) (ho : Opens P e d good) (dflt : α) :
   Opens P t (Kd.slice e d) (fun xs => xs.length * B ≤ 140737488351232 ∧ ∀ x ∈ xs, good x) := by
 intro H enc w fuel cs x h hwt
 rcases open_slice ht h with ⟨rfl, rfl⟩ | ⟨a, len, cap, m, n, D, Pl, rfl, hb, hl, hm, hmm, rfl, hx⟩
 · exact ⟨[], ⟨none, 0, rfl, Nat.le_refl _, rfl, by simp, fun h => absurd h (by simp)⟩, by simp, by simp⟩
 · simp only [if_true] at hmm
   subst hmm
   unfold DataW.weights at hwt
   rw [ht] at hwt
   simp only [List.all_cons, List.all_append, Bool.and_eq_true, decide_eq_true_eq, List.length_map, List.length_range, hB] at hwt
   obtain ⟨hw1, hw2, _⟩ := hwt
   have each : ∀ i, i < len → ∃ v : α × List Value, v.2.length = d.sz ∧ d.K w v.1 v.2 ∧ good v.1 ∧ ∀ k u, v.2[k]? = some u → w.cell? (a.add (i * d.sz + k)) = some u := by
     intro i hi
     obtain ⟨cs', h1, h2⟩ := hx i (by omega)
     rw [hc] at h1
     obtain ⟨_, hlen, hcell⟩ := World.cells?_some h1
     obtain ⟨v, hv, hg⟩ := ho enc w n cs' _ h2 (weightsAll_mem hw2 (List.mem_map.2 ⟨i, List.mem_range.2 hi, rfl⟩))
     refine ⟨(v, cs'), hlen, hv, hg, fun k u hk => ?_⟩
     have hk2 : k < d.sz := by
       have hk3 : k < cs'.length := (List.getElem?_eq_some_iff.1 hk).1
       omega
     have := hcell k hk2
     rw [Go.Deep.add_add] at this
     rw [this]; exact hk
   haveI : Inhabited (α × List Value) := ⟨(dflt, [])⟩
   obtain ⟨q, hq⟩ := choose_lt each
   have hlen : ((List.range len).map fun i => (q i).1).length = len := by simp
   have hget : ∀ j p, ((List.range len).map fun i => (q i).1)[j]? = some p → j < len ∧ p = (q j).1 := by
     intro j p hj
     rw [List.getElem?_map] at hj
     by_cases hjl : j < len
     · rw [List.getElem?_range hjl] at hj
       exact ⟨hjl, by simpa using hj.symm⟩
     · rw [List.getElem?_eq_none (by simp; omega)] at hj; simp at hj
   refine ⟨(List.range len).map fun i => (q i).1, ⟨some a, m, by rw [hlen], by rw [hlen]; exact hl, by rw [hlen], ?_, fun _ => ⟨a, rfl, fun j p hj => ?_⟩⟩, ?_, ?_⟩
   · rw [hlen]; unfold maxLen at hm; omega
   · obtain ⟨hjl, rfl⟩ := hget j p hj
     exact ⟨(q j).2, (hq j hjl).1, (hq j hjl).2.1, (hq j hjl).2.2.2⟩
   · rw [hlen]
     have h5 : len * B ≤ (len + (m - len)) * B := Nat.mul_le_mul_right _ (by omega)
     have h6 : reachBytes = 140737488351232 := rfl
     omega
   · intro v hv
     obtain ⟨i, hi, rfl⟩ := List.mem_map.1 hv
     exact (hq i (List.mem_range.1 hi)).2.2.1
theorem opens_two {t : TypeId} {f0 f1 : Field} {a : Kd α} {b : Kd β} {ga : α → Prop} {gb : β → Prop} (ht : P.underlying t = some (.struct #[f0, f1])) (h0 : Opens P f0.type a ga) (h1 : Opens P f1.type b gb)
   (o0 : f0.offset = 0) (o1 : f1.offset = a.sz) (c0 : P.cellsOf f0.type = a.sz) (c1 : P.cellsOf f1.type = b.sz) (ct : P.cellsOf t = a.sz + b.sz) : Opens P t (Kd.pair a b) (fun x => ga x.1 ∧ gb x.2) := by
 intro H enc w fuel cs x h hwt
 obtain ⟨xs, n, _, rfl, hcl, hxl, hf⟩ := DataW.trod_struct ht h
 match xs, hxl with
 | [y0, y1], _ =>
   have g0 := hf 0 f0 rfl
   have g1 := hf 1 f1 rfl
   rw [o0, c0] at g0
   rw [o1, c1] at g1
   unfold DataW.weights at hwt
   rw [ht] at hwt
   simp only [List.map_cons, List.map_nil, DataW.weightsEach, List.all_append, Bool.and_eq_true] at hwt
   obtain ⟨hw0, hw1, _⟩ := hwt
   rw [List.drop_zero] at g0
   obtain ⟨v0, k0, q0⟩ := h0 enc w n _ y0 g0 hw0
   obtain ⟨v1, k1, q1⟩ := h1 enc w n _ y1 g1 hw1
   refine ⟨(v0, v1), ⟨_, _, ?_, k0, k1⟩, q0, q1⟩
   rw [List.take_of_length_le (l := cs.drop a.sz) (by rw [List.length_drop]; omega), List.take_append_drop]
theorem split_four {γ : Type} (cs : List γ) (a b c d : Nat) (h : cs.length = a + b + c + d) : cs = cs.take a ++ ((cs.drop a).take b ++ ((cs.drop (a + b)).take c ++ (cs.drop (a + b + c)).take d)) := by
 have h1 : (cs.drop (a + b + c)).take d = cs.drop (a + b + c) := List.take_of_length_le (by rw [List.length_drop]; omega)
 have h2 : cs.drop (a + b) = (cs.drop (a + b)).take c ++ cs.drop (a + b + c) := by rw [← List.drop_drop (l := cs) (i := c) (j := a + b), List.take_append_drop]
 have h3 : cs.drop a = (cs.drop a).take b ++ cs.drop (a + b) := by rw [← List.drop_drop (l := cs) (i := b) (j := a), List.take_append_drop]
 rw [h1, ← h2, ← h3, List.take_append_drop]
theorem opens_four {γ δ : Type} {t : TypeId} {f0 f1 f2 f3 : Field} {a : Kd α} {b : Kd β} {c : Kd γ} {d : Kd δ} {ga : α → Prop} {gb : β → Prop} {gc : γ → Prop} {gd : δ → Prop} (ht : P.underlying t = some (.struct #[f0, f1, f2, f3])) (h0 : Opens P f0.type a ga) (h1 : Opens P f1.type b gb) (h2 : Opens P f2.type c gc) (h3 : Opens P f3.type d gd)
   (o0 : f0.offset = 0) (o1 : f1.offset = a.sz) (o2 : f2.offset = a.sz + b.sz) (o3 : f3.offset = a.sz + b.sz + c.sz) (c0 : P.cellsOf f0.type = a.sz) (c1 : P.cellsOf f1.type = b.sz) (c2 : P.cellsOf f2.type = c.sz) (c3 : P.cellsOf f3.type = d.sz) (ct : P.cellsOf t = a.sz + b.sz + c.sz + d.sz) : Opens P t (Kd.pair a (Kd.pair b (Kd.pair c d))) (fun x => ga x.1 ∧ gb x.2.1 ∧ gc x.2.2.1 ∧ gd x.2.2.2) := by
 intro H enc w fuel cs x h hwt
 obtain ⟨xs, n, _, rfl, hcl, hxl, hf⟩ := DataW.trod_struct ht h
 match xs, hxl with
 | [y0, y1, y2, y3], _ =>
   have g0 := hf 0 f0 rfl
   have g1 := hf 1 f1 rfl
   have g2 := hf 2 f2 rfl
   have g3 := hf 3 f3 rfl
   rw [o0, c0] at g0
   rw [o1, c1] at g1
   rw [o2, c2] at g2
   rw [o3, c3] at g3
   unfold DataW.weights at hwt
   rw [ht] at hwt
   simp only [List.map_cons, List.map_nil, DataW.weightsEach, List.all_append, Bool.and_eq_true] at hwt
   obtain ⟨hw0, hw1, hw2, hw3, _⟩ := hwt
   rw [List.drop_zero] at g0
   obtain ⟨v0, k0, q0⟩ := h0 enc w n _ y0 g0 hw0
   obtain ⟨v1, k1, q1⟩ := h1 enc w n _ y1 g1 hw1
   obtain ⟨v2, k2, q2⟩ := h2 enc w n _ y2 g2 hw2
   obtain ⟨v3, k3, q3⟩ := h3 enc w n _ y3 g3 hw3
   refine ⟨(v0, v1, v2, v3), ⟨_, _, ?_, k0, _, _, rfl, k1, _, _, rfl, k2, k3⟩, q0, q1, q2, q3⟩
   exact split_four cs _ _ _ _ (by omega)
theorem opens_iso {t : TypeId} {d : Kd α} {good : α → Prop} {f : β → α} (g : α → β) (hg : ∀ x, f (g x) = x) (h : Opens P t d good) : Opens P t (Kd.iso d f) (fun y => good (f y)) := by
 intro H enc w fuel cs x hx hw
 obtain ⟨v, k, q⟩ := h enc w fuel cs x hx hw
 exact ⟨g v, by show d.K w (f (g v)) cs; rw [hg]; exact k, by show good (f (g v)); rw [hg]; exact q⟩
theorem open_arg {H : Type} {enc : TypeId × Value → H} {w : World} {t : TypeId} {d : Kd α} {good : α → Prop} {v : Value} {dd : DataW H} {ps : List MemPlace} (ho : Opens P t d good) (h : DataW.Trod enc P w 0 (fun _ => true) true t v dd ps)
   (hw : (dd.weights P t).all (· ≤ reachBytes) = true) : ∃ x, d.K w x v.cells.toList ∧ good x := by
 obtain ⟨fuel, hf⟩ := h
 exact ho enc w fuel _ _ hf hw
theorem weight_at {H : Type} {ts : List TypeId} {ds : List (DataW H)} (h : (DataW.weightsEach P ts ds).all (· ≤ reachBytes) = true) : ∀ {j : Nat} {t : TypeId} {d : DataW H}, ts[j]? = some t → ds[j]? = some d → (d.weights P t).all (· ≤ reachBytes) = true := by
 induction ts generalizing ds with
 | nil => intro j t d ht; simp at ht
 | cons a ts ih =>
   cases ds with
   | nil => intro j t d _ hd; simp at hd
   | cons b ds =>
     unfold DataW.weightsEach at h
     rw [List.all_append, Bool.and_eq_true] at h
     intro j t d ht hd
     cases j with
     | zero =>
       obtain rfl : a = t := by simpa using ht
       obtain rfl : b = d := by simpa using hd
       exact h.1
     | succ j => exact ih h.2 (by simpa using ht) (by simpa using hd)
theorem of_slice {w : World} {e : Nat} {d : Kd α} {xs : List α} {A : Option Addr} {n c : Nat} (h : (Kd.slice e d).K w xs [.slice A n c]) : n = xs.length ∧ xs.length ≤ c ∧ d.C w A xs.length xs := by
 obtain ⟨A', c', he, hl, hc⟩ := h
 simp only [List.cons.injEq, Value.slice.injEq, and_true] at he
 obtain ⟨rfl, rfl, rfl⟩ := he
 exact ⟨rfl, hl, hc⟩
end
end Go.Proofs.Yteeihjpnhjnknaa.Open
namespace Go.Proofs.Yteeihjpnhjnknaa.GAll
open Go.RowKit Go.Proofs.YteeihjpnhjnknaaW.PrintWords Go.Proofs.YteeihjpnhjnknaaW.PrintLast Go.Proofs.YteeihjpnhjnknaaW.PrintMore
attribute [local go_sem] max2_int min2_int max_two min_two max_three min_three max_four min_four   -- for this text's walks alone
set_option linter.unusedVariables false
set_option linter.unusedSimpArgs false
def canon_Code.f (k : Nat) (a0_0 : Int) (l0_1 : List S89) (l1 : List (List Int)) : Option (List Int × Int) := (canon_one.f k a0_0 l0_1 l1).bind fun t => if t.2.2.2 = 0 then (canon_plane_best.f k t.1 t.2.1 t.2.2.1).bind fun u => some (u.1, 0) else some ([], t.2.2.2)
theorem canon_Code.mono : ∀ a0 a1 a2 k, LeO (canon_Code.f k a0 a1 a2) (canon_Code.f (k + 1) a0 a1 a2) := fun _ _ _ _ =>
 LeO.bind (canon_one.mono _ _ _ _) (fun _ => LeO.ite (LeO.bind (canon_plane_best.mono _ _ _ _) (fun _ => LeO.refl _)) (LeO.refl _))
theorem canon_Code.calls (k : Nat) (a0_0 : Int) (A0_1 : Option Addr) (c0_1 : Nat) (l0_1 : List (S89)) (A1 : Option Addr) (c1 : Nat) (l1 : List (List Int)) (r1 : List Int) (r2 : Int) (w : World) (hr0_1 : Kd.C k89 w A0_1 l0_1.length l0_1) (hc0_1 : l0_1.length ≤ c0_1) (hr1 : Kd.C (Kd.slice 3 (Kd.int .i64)) w A1 l1.length l1) (hc1 : l1.length ≤ c1) (h : canon_Code.f k a0_0 l0_1 l1 = some (r1, r2)) :
   Calls Try.prog 16 #[.agg #[.int .i64 a0_0, .slice A0_1 l0_1.length c0_1], .slice A1 l1.length c1] w fun e w' => ∃ v0_ : Value, e = .returned (.tuple #[v0_, .int .i64 r2]) ∧ Kd.R (Kd.int .i64) 3 w' w.heap.size (fun _ => True) v0_ r1 ∧ Below w.heap.size w w' := by
 obtain ⟨⟨n, nx, tl, e⟩, ht, h⟩ := Option.bind_eq_some_iff.mp h
 simp only at h
 refine One.code_calls a0_0 A0_1 l0_1.length c0_1 _ n nx tl e w (fun W hW => canon_one.calls k a0_0 A0_1 c0_1 l0_1 A1 c1 l1 n nx tl e W (Kd.C_below hr0_1 hW) hc0_1 (Kd.C_below hr1 hW) hc1 ht) (r1, r2) (fun he => ?_) (fun he => ?_)
 · rw [if_neg he] at h
   exact (Option.some.inj h).symm
 · rw [if_pos he] at h
   obtain ⟨⟨cd, od, j⟩, hu, h⟩ := Option.bind_eq_some_iff.mp h
   obtain ⟨rfl, rfl⟩ : cd = r1 ∧ 0 = r2 := by simpa using h
   exact ⟨rfl, j, fun W B1 d1 B2 d2 g1 g2 g3 g4 => (canon_plane_best.calls k n B1 d1 nx B2 d2 tl cd od j W g1 g2 g3 g4 hu).mono fun _ _ ⟨v0, v1, q1, q2, _, q4⟩ => ⟨v0, v1, q1, Kd.R_mono q2 (fun _ _ => trivial), q4⟩⟩
def canon_Turns.f (k : Nat) (a0_0 : Int) (l0_1 : List S89) (l1 : List (List Int)) : Option (Int × Int) := (canon_one.f k a0_0 l0_1 l1).bind fun t => if t.2.2.2 = 0 then (canon_plane_best.f k t.1 t.2.1 t.2.2.1).bind fun u => some (u.2.2, 0) else some (0, t.2.2.2)
theorem canon_Turns.mono : ∀ a0 a1 a2 k, LeO (canon_Turns.f k a0 a1 a2) (canon_Turns.f (k + 1) a0 a1 a2) := fun _ _ _ _ =>
 LeO.bind (canon_one.mono _ _ _ _) (fun _ => LeO.ite (LeO.bind (canon_plane_best.mono _ _ _ _) (fun _ => LeO.refl _)) (LeO.refl _))
theorem canon_Turns.calls (k : Nat) (a0_0 : Int) (A0_1 : Option Addr) (c0_1 : Nat) (l0_1 : List (S89)) (A1 : Option Addr) (c1 : Nat) (l1 : List (List Int)) (r1 : Int) (r2 : Int) (w : World) (hr0_1 : Kd.C k89 w A0_1 l0_1.length l0_1) (hc0_1 : l0_1.length ≤ c0_1) (hr1 : Kd.C (Kd.slice 3 (Kd.int .i64)) w A1 l1.length l1) (hc1 : l1.length ≤ c1) (h : canon_Turns.f k a0_0 l0_1 l1 = some (r1, r2)) :
   Calls Try.prog 18 #[.agg #[.int .i64 a0_0, .slice A0_1 l0_1.length c0_1], .slice A1 l1.length c1] w fun e w' => e = .returned (.tuple #[.int .i64 r1, .int .i64 r2]) ∧ Below w.heap.size w w' := by
 obtain ⟨⟨n, nx, tl, e⟩, ht, h⟩ := Option.bind_eq_some_iff.mp h
 simp only at h
 refine One.turns_calls a0_0 A0_1 l0_1.length c0_1 _ n nx tl e w (fun W hW => canon_one.calls k a0_0 A0_1 c0_1 l0_1 A1 c1 l1 n nx tl e W (Kd.C_below hr0_1 hW) hc0_1 (Kd.C_below hr1 hW) hc1 ht) (r1, r2) (fun he => ?_) (fun he => ?_)
 · rw [if_neg he] at h
   exact (Option.some.inj h).symm
 · rw [if_pos he] at h
   obtain ⟨⟨cd, od, j⟩, hu, h⟩ := Option.bind_eq_some_iff.mp h
   obtain ⟨rfl, rfl⟩ : j = r1 ∧ 0 = r2 := by simpa using h
   exact ⟨rfl, cd, fun W B1 d1 B2 d2 g1 g2 g3 g4 => (canon_plane_best.calls k n B1 d1 nx B2 d2 tl cd od j W g1 g2 g3 g4 hu).mono fun _ _ ⟨v0, v1, q1, q2, _, q4⟩ => ⟨v0, v1, q1, Kd.R_mono q2 (fun _ _ => trivial), q4⟩⟩
end Go.Proofs.Yteeihjpnhjnknaa.GAll
namespace Go.Proofs.Yteeihjpnhjnknaa.GAll
open Go.RowKit Go.Proofs.YteeihjpnhjnknaaW.PrintWords Go.Proofs.YteeihjpnhjnknaaW.PrintLast Go.Proofs.YteeihjpnhjnknaaW.PrintMore
attribute [local go_sem] max2_int min2_int max_two min_two max_three min_three max_four min_four   -- for this text's walks alone
set_option linter.unusedVariables false
set_option linter.unusedSimpArgs false
def tangramlaw21_path.f  : Option (Int × (List (S89)) × (List (List Int))) := some (3, (([(⟨0, 1⟩ : S89), (⟨1, 2⟩ : S89)] : List (S89))), (([(([0] : List Int)), (([1, 2] : List Int)), (([3] : List Int))] : List (List Int))))
set_option maxHeartbeats 8000000 in
set_option maxRecDepth 100000 in
theorem tangramlaw21_path.calls  (r1 : Int) (r2 : List (S89)) (r3 : List (List Int)) (w : World) (h : tangramlaw21_path.f  = some (r1, r2, r3)) :
   Calls Try.prog 34 #[] w fun e w' => ∃ v1_ v2_ : Value, e = .returned (.tuple #[.agg #[.int .i64 r1, v1_], v2_]) ∧ Kd.R k89 89 w' w.heap.size (fun k_ => (w.heap.size ≤ k_)) v1_ r2 ∧ Kd.N (Kd.slice 3 (Kd.int .i64)) 32 w' w.heap.size (fun k_ => (w.heap.size ≤ k_) ∧ some k_ ≠ (v1_ : Value).ownBlock) v2_ r3 ∧ Below w.heap.size w w' := by
 have hu24 := Try.underlying24
 have hu89 := Try.underlying89
 have HB := Aside0.mk (Below.refl w.heap.size w)
 have H : (some (3, (([(⟨0, 1⟩ : S89), (⟨1, 2⟩ : S89)] : List (S89))), (([(([0] : List Int)), (([1, 2] : List Int)), (([3] : List Int))] : List (List Int))))) = some (r1, r2, r3) := h
 clear h
 obtain ⟨y134, hy134⟩ : ∃ y_ : List (S89), y_ = (([(⟨0, 1⟩ : S89), (⟨1, 2⟩ : S89)] : List (S89))) := ⟨_, rfl⟩
 replace H : (some (3, y134, (([(([0] : List Int)), (([1, 2] : List Int)), (([3] : List Int))] : List (List Int))))) = some (r1, r2, r3) := by first | (rw [hy134]; with_reducible exact H) | (have H2_ := (Option.bind_some _ _).symm.trans H; rw [hy134]; with_reducible exact H2_) | (have H2_ := (Option.bind_some _ _).symm.trans H; with_reducible exact H2_) | with_reducible exact H | (rw [hy134]; exact H) | exact H
 have Ny134 := Aside0.mk hy134
 clear hy134
 obtain ⟨y137, hy137⟩ : ∃ y_ : List Int, y_ = (([0] : List Int)) := ⟨_, rfl⟩
 replace H : (some (3, y134, (([y137, (([1, 2] : List Int)), (([3] : List Int))] : List (List Int))))) = some (r1, r2, r3) := by first | (rw [hy137]; with_reducible exact H) | (have H2_ := (Option.bind_some _ _).symm.trans H; rw [hy137]; with_reducible exact H2_) | (have H2_ := (Option.bind_some _ _).symm.trans H; with_reducible exact H2_) | with_reducible exact H | (rw [hy137]; exact H) | exact H
 have Ny137 := Aside0.mk hy137
 clear hy137
 obtain ⟨y140, hy140⟩ : ∃ y_ : List Int, y_ = (([1, 2] : List Int)) := ⟨_, rfl⟩
 replace H : (some (3, y134, (([y137, y140, (([3] : List Int))] : List (List Int))))) = some (r1, r2, r3) := by first | (rw [hy140]; with_reducible exact H) | (have H2_ := (Option.bind_some _ _).symm.trans H; rw [hy140]; with_reducible exact H2_) | (have H2_ := (Option.bind_some _ _).symm.trans H; with_reducible exact H2_) | with_reducible exact H | (rw [hy140]; exact H) | exact H
 have Ny140 := Aside0.mk hy140
 clear hy140
 obtain ⟨y143, hy143⟩ : ∃ y_ : List Int, y_ = (([3] : List Int)) := ⟨_, rfl⟩
 replace H : (some (3, y134, (([y137, y140, y143] : List (List Int))))) = some (r1, r2, r3) := by first | (rw [hy143]; with_reducible exact H) | (have H2_ := (Option.bind_some _ _).symm.trans H; rw [hy143]; with_reducible exact H2_) | (have H2_ := (Option.bind_some _ _).symm.trans H; with_reducible exact H2_) | with_reducible exact H | (rw [hy143]; exact H) | exact H
 have Ny143 := Aside0.mk hy143
 clear hy143
 obtain ⟨y146, hy146⟩ : ∃ y_ : List (List Int), y_ = (([y137, y140, y143] : List (List Int))) := ⟨_, rfl⟩
 replace H : (some (3, y134, y146)) = some (r1, r2, r3) := by first | (rw [hy146]; with_reducible exact H) | (have H2_ := (Option.bind_some _ _).symm.trans H; rw [hy146]; with_reducible exact H2_) | (have H2_ := (Option.bind_some _ _).symm.trans H; with_reducible exact H2_) | with_reducible exact H | (rw [hy146]; exact H) | exact H
 have Ny146 := Aside0.mk hy146
 clear hy146
 simp only [Option.some.injEq, Prod.mk.injEq] at H
 obtain ⟨rfl, rfl, rfl⟩ := H
 go_enter Try.func34, Try.ntmps34
 go_wp2_with (first | ((with_reducible refine gate_dst (N := 0) rfl ?_); refine box_event ?hg (N := 0) ?hd (cs := #[.int .i64 0, .slice none 0 0]) (t := 24) ?hr ?_; (case hd => rfl); (case hg => rfl); (case hr => first | (go_simp; done) | (go_simp; rfl)); intro gb133 hg w1 hbox hb; have n0_ := Aside0.mk (below_step (by repeat (first | (with_reducible first | exact HB.out | apply below_alloc | apply pw_below_drewN | apply below_drew1) | exact HB.out)) hb); have n1_ := Aside0.mk (hbox); have n2_ := Aside0.mk ((by rw [hg]; exact (below_size (by repeat (first | (with_reducible first | exact HB.out | apply below_alloc | apply pw_below_drewN | apply below_drew1) | exact HB.out))) : w.heap.size ≤ gb133)); have n3_ := Aside0.mk ((by rw [hg]; exact (below_size (by repeat (first | (with_reducible first | exact HB.out | apply below_alloc | apply pw_below_drewN | apply below_drew1) | exact HB.out))) : w.heap.size ≤ gb133)); clear HB; have HB := n0_; have BK133 := n1_; have GW133 := n2_; have GE133 := n3_; clear n0_ n1_ n2_ n3_; clear hb hbox hg) | ((with_reducible refine gate_dst (N := 4) rfl ?_); refine Kd.R_lit k89 _ 89 ?hg (N := 4) ?hd (xs := ([(⟨0, 1⟩ : S89), (⟨1, 2⟩ : S89)] : List (S89))) (inner := [.int .i64 0, .int .i64 1, .int .i64 1, .int .i64 2]) (ok := fun _ => True) (okp := fun _ => True) ?hr ?hp (fun _ hk => hk) trivial (Below.refl _ _) (Nat.le_refl _) (by simp) ?_; (case hd => rfl); (case hg => rfl); (case hr => first | (go_simp; done) | (go_simp; rfl)); (case hp => exact (Reps.c2 (show Kd.M k89 _ _ _ (⟨0, 1⟩ : S89) [.int .i64 0, .int .i64 1] from (k89_mkM _ _ _ (⟨0, 1⟩ : S89) )) (Reps.c2 (show Kd.M k89 _ _ _ (⟨1, 2⟩ : S89) [.int .i64 1, .int .i64 2] from (k89_mkM _ _ _ (⟨1, 2⟩ : S89) )) (Reps.none _ _)))); intro v135 w2 ho3 hb hg_ hnew_; clear hg_ hnew_; (first | rw [← Ny134.out] at ho3 | (simp only [Int.reduceToNat] at ho3; rw [← Ny134.out] at ho3)); have n0_ := Aside0.mk (Kd.R_lower (Kd.R_newM (M := fun k_ => (w.heap.size ≤ k_)) ho3 (below_size (by repeat (first | (with_reducible first | exact HB.out | apply below_alloc | apply pw_below_drewN | apply below_drew1 | refine below_set ?_ GE133.out) | exact HB.out))) (fun k_ h_ => h_)) (below_size (by repeat (first | (with_reducible first | exact HB.out | apply below_alloc | apply pw_below_drewN | apply below_drew1 | refine below_set ?_ GE133.out) | exact HB.out)))); have n1_ := Aside0.mk (blk_below (g := gb133) (o := .cells #[.int .i64 0, .slice none 0 0] 24 (0, 0)) (by (with_reducible repeat (first | refine blk_drewN ?_ _ | refine blk_drew ?_ | refine blk_alloc ?_ _)); exact BK133.out) hb); have n2_ := Aside0.mk (below_step (by repeat (first | (with_reducible first | exact HB.out | apply below_alloc | apply pw_below_drewN | apply below_drew1 | refine below_set ?_ GE133.out) | exact HB.out)) hb); clear BK133; clear HB; have HO136 := n0_; have BK133 := n1_; have HB := n2_; clear n0_ n1_ n2_; clear hb ho3; obtain ⟨Ao4, co4, eo4⟩ := Kd.R_slice HO136.out; subst eo4) | ((with_reducible refine gate_dst (N := 6) rfl ?_); refine Kd.R_lit (Kd.int .i64) _ 3 ?hg (N := 6) ?hd (xs := ([0] : List Int)) (inner := [.int .i64 0]) (ok := fun _ => True) (okp := fun _ => True) ?hr ?hp (fun _ hk => hk) trivial (Below.refl _ _) (Nat.le_refl _) (by simp) ?_; (case hd => rfl); (case hg => rfl); (case hr => first | (go_simp; done) | (go_simp; rfl)); (case hp => exact (Reps.one (show Kd.M (Kd.int .i64) _ _ _ 0 [.int .i64 0] from rfl) (Reps.none _ _))); intro v138 w5 ho6 hb hg_ hnew_; clear hg_ hnew_; (first | rw [← Ny137.out] at ho6 | (simp only [Int.reduceToNat] at ho6; rw [← Ny137.out] at ho6)); have n0_ := Aside0.mk (Kd.R_below (by (with_reducible repeat (first | apply Kd.R_alloc | apply Kd.R_drewN | apply Kd.R_drew)); exact HO136.out) hb); have n1_ := Aside0.mk (Kd.R_lower (Kd.R_newM (M := fun k_ => (w.heap.size ≤ k_)) ho6 (below_size (by repeat (first | (with_reducible first | exact HB.out | apply below_alloc | apply pw_below_drewN | apply below_drew1 | refine below_set ?_ GE133.out) | exact HB.out))) (fun k_ h_ => h_)) (below_size (by repeat (first | (with_reducible first | exact HB.out | apply below_alloc | apply pw_below_drewN | apply below_drew1 | refine below_set ?_ GE133.out) | exact HB.out)))); have n2_ := Aside0.mk (blk_below (g := gb133) (o := .cells #[.int .i64 0, .slice none 0 0] 24 (0, 0)) (by (with_reducible repeat (first | refine blk_drewN ?_ _ | refine blk_drew ?_ | refine blk_alloc ?_ _)); exact BK133.out) hb); have n3_ := Aside0.mk (below_step (by repeat (first | (with_reducible first | exact HB.out | apply below_alloc | apply pw_below_drewN | apply below_drew1 | refine below_set ?_ GE133.out) | exact HB.out)) hb); clear HO136; clear BK133; clear HB; have HO136 := n0_; have HO139 := n1_; have BK133 := n2_; have HB := n3_; clear n0_ n1_ n2_ n3_; clear hb ho6) | ((with_reducible refine gate_dst (N := 7) rfl ?_); refine Kd.R_lit (Kd.int .i64) _ 3 ?hg (N := 7) ?hd (xs := ([1, 2] : List Int)) (inner := [.int .i64 1, .int .i64 2]) (ok := fun _ => True) (okp := fun _ => True) ?hr ?hp (fun _ hk => hk) trivial (Below.refl _ _) (Nat.le_refl _) (by simp) ?_; (case hd => rfl); (case hg => rfl); (case hr => first | (go_simp; done) | (go_simp; rfl)); (case hp => exact (Reps.one (show Kd.M (Kd.int .i64) _ _ _ 1 [.int .i64 1] from rfl) (Reps.one (show Kd.M (Kd.int .i64) _ _ _ 2 [.int .i64 2] from rfl) (Reps.none _ _)))); intro v141 w7 ho8 hb hg_ hnew_; clear hg_ hnew_; (first | rw [← Ny140.out] at ho8 | (simp only [Int.reduceToNat] at ho8; rw [← Ny140.out] at ho8)); have n0_ := Aside0.mk (Kd.R_below (by (with_reducible repeat (first | apply Kd.R_alloc | apply Kd.R_drewN | apply Kd.R_drew)); exact HO136.out) hb); have n1_ := Aside0.mk (Kd.R_elder' (by (with_reducible repeat (first | apply Kd.R_alloc | apply Kd.R_drewN | apply Kd.R_drew)); exact HO139.out) (Kd.R_base ho8) hb); have n2_ := Aside0.mk (Kd.R_lower (Kd.R_new' (Kd.R_newM (M := fun k_ => (w.heap.size ≤ k_)) ho8 (below_size (by repeat (first | (with_reducible first | exact HB.out | apply below_alloc | apply pw_below_drewN | apply below_drew1 | refine below_set ?_ GE133.out) | exact HB.out))) (fun k_ h_ => h_)) (Kd.R_lt (by (with_reducible repeat (first | apply Kd.R_alloc | apply Kd.R_drewN | apply Kd.R_drew)); exact HO139.out))) (below_size (by repeat (first | (with_reducible first | exact HB.out | apply below_alloc | apply pw_below_drewN | apply below_drew1 | refine below_set ?_ GE133.out) | exact HB.out)))); have n3_ := Aside0.mk (blk_below (g := gb133) (o := .cells #[.int .i64 0, .slice none 0 0] 24 (0, 0)) (by (with_reducible repeat (first | refine blk_drewN ?_ _ | refine blk_drew ?_ | refine blk_alloc ?_ _)); exact BK133.out) hb); have n4_ := Aside0.mk (below_step (by repeat (first | (with_reducible first | exact HB.out | apply below_alloc | apply pw_below_drewN | apply below_drew1 | refine below_set ?_ GE133.out) | exact HB.out)) hb); clear HO136; clear HO139; clear BK133; clear HB; have HO136 := n0_; have HO139 := n1_; have HO142 := n2_; have BK133 := n3_; have HB := n4_; clear n0_ n1_ n2_ n3_ n4_; clear hb ho8) | ((with_reducible refine gate_dst (N := 8) rfl ?_); refine Kd.R_lit (Kd.int .i64) _ 3 ?hg (N := 8) ?hd (xs := ([3] : List Int)) (inner := [.int .i64 3]) (ok := fun _ => True) (okp := fun _ => True) ?hr ?hp (fun _ hk => hk) trivial (Below.refl _ _) (Nat.le_refl _) (by simp) ?_; (case hd => rfl); (case hg => rfl); (case hr => first | (go_simp; done) | (go_simp; rfl)); (case hp => exact (Reps.one (show Kd.M (Kd.int .i64) _ _ _ 3 [.int .i64 3] from rfl) (Reps.none _ _))); intro v144 w9 ho10 hb hg_ hnew_; clear hg_ hnew_; (first | rw [← Ny143.out] at ho10 | (simp only [Int.reduceToNat] at ho10; rw [← Ny143.out] at ho10)); have n0_ := Aside0.mk (Kd.R_below (by (with_reducible repeat (first | apply Kd.R_alloc | apply Kd.R_drewN | apply Kd.R_drew)); exact HO136.out) hb); have n1_ := Aside0.mk (Kd.R_elder' (by (with_reducible repeat (first | apply Kd.R_alloc | apply Kd.R_drewN | apply Kd.R_drew)); exact HO139.out) (Kd.R_base ho10) hb); have n2_ := Aside0.mk (Kd.R_elder' (by (with_reducible repeat (first | apply Kd.R_alloc | apply Kd.R_drewN | apply Kd.R_drew)); exact HO142.out) (Kd.R_base ho10) hb); have n3_ := Aside0.mk (Kd.R_lower (Kd.R_new' (Kd.R_new' (Kd.R_newM (M := fun k_ => (w.heap.size ≤ k_)) ho10 (below_size (by repeat (first | (with_reducible first | exact HB.out | apply below_alloc | apply pw_below_drewN | apply below_drew1 | refine below_set ?_ GE133.out) | exact HB.out))) (fun k_ h_ => h_)) (Kd.R_lt (by (with_reducible repeat (first | apply Kd.R_alloc | apply Kd.R_drewN | apply Kd.R_drew)); exact HO139.out))) (Kd.R_lt (by (with_reducible repeat (first | apply Kd.R_alloc | apply Kd.R_drewN | apply Kd.R_drew)); exact HO142.out))) (below_size (by repeat (first | (with_reducible first | exact HB.out | apply below_alloc | apply pw_below_drewN | apply below_drew1 | refine below_set ?_ GE133.out) | exact HB.out)))); have n4_ := Aside0.mk (blk_below (g := gb133) (o := .cells #[.int .i64 0, .slice none 0 0] 24 (0, 0)) (by (with_reducible repeat (first | refine blk_drewN ?_ _ | refine blk_drew ?_ | refine blk_alloc ?_ _)); exact BK133.out) hb); have n5_ := Aside0.mk (below_step (by repeat (first | (with_reducible first | exact HB.out | apply below_alloc | apply pw_below_drewN | apply below_drew1 | refine below_set ?_ GE133.out) | exact HB.out)) hb); clear HO136; clear HO139; clear HO142; clear BK133; clear HB; have HO136 := n0_; have HO139 := n1_; have HO142 := n2_; have HO145 := n3_; have BK133 := n4_; have HB := n5_; clear n0_ n1_ n2_ n3_ n4_ n5_; clear hb ho10; obtain ⟨Ao11, co11, eo11⟩ := Kd.R_slice HO139.out; subst eo11; obtain ⟨Ao12, co12, eo12⟩ := Kd.R_slice HO142.out; subst eo12; obtain ⟨Ao13, co13, eo13⟩ := Kd.R_slice HO145.out; subst eo13) | ((with_reducible refine gate_dst (N := 9) rfl ?_); refine Kd.N_lit (Kd.slice 3 (Kd.int .i64)) _ 32 ?hg (N' := 9) ?hd (xs := ([y137, y140, y143] : List (List Int))) (inner := [.slice Ao11 y137.length co11, .slice Ao12 y140.length co12, .slice Ao13 y143.length co13]) (ok := (fun k_ => (w.heap.size ≤ k_) ∧ some k_ ≠ (.slice Ao4 y134.length co4 : Value).ownBlock ∧ k_ ≠ gb133)) (okp := (fun k_ => (w.heap.size ≤ k_) ∧ some k_ ≠ (.slice Ao4 y134.length co4 : Value).ownBlock ∧ k_ ≠ gb133)) ?hr ?hp (fun _ hk => hk) ((show ∀ k_, w9.heap.size ≤ k_ → (fun k_ => (w.heap.size ≤ k_) ∧ some k_ ≠ (.slice Ao4 y134.length co4 : Value).ownBlock ∧ k_ ≠ gb133) k_ from fun k_ hk => ⟨(Nat.le_trans (below_size (by repeat (first | (with_reducible first | exact HB.out | apply below_alloc | apply pw_below_drewN | apply below_drew1 | refine below_set ?_ GE133.out) | exact HB.out))) hk), Kd.fresh' (Kd.R_lt (by (with_reducible repeat (first | apply Kd.R_alloc | apply Kd.R_drewN | apply Kd.R_drew)); exact HO136.out)) k_ hk, Kd.freshB (g := gb133) (o := .cells #[.int .i64 0, .slice none 0 0] 24 (0, 0)) (by (with_reducible repeat (first | refine blk_drewN ?_ _ | refine blk_drew ?_ | refine blk_alloc ?_ _)); exact BK133.out) k_ hk⟩) _ (Nat.le_refl _)) (Below.refl _ _) (Nat.le_refl _) (by simp) ?_; (case hd => rfl); (case hg => rfl); (case hr => first | (go_simp; done) | (go_simp; rfl)); (case hp => exact (Reps.one (show Kd.FK (Kd.slice 3 (Kd.int .i64)) _ _ y137 [.slice Ao11 y137.length co11] from (Kd.FK_slice_mk (Kd.R_reads' (Kd.R_mono (ok' := (fun k_ => (w.heap.size ≤ k_) ∧ some k_ ≠ (.slice Ao4 y134.length co4 : Value).ownBlock ∧ k_ ≠ gb133)) (Kd.R_types (Kd.R_apart' (HO139.out) (Kd.R_typed HO136.out) (by decide)) BK133.out (by decide)) (fun k_ hk => ⟨hk.1.1.1.1.1, ⟨hk.1.2, hk.2⟩⟩))).2.1 (Kd.R_F (Kd.R_mono (ok' := (fun k_ => (w.heap.size ≤ k_) ∧ some k_ ≠ (.slice Ao4 y134.length co4 : Value).ownBlock ∧ k_ ≠ gb133)) (Kd.R_types (Kd.R_apart' (HO139.out) (Kd.R_typed HO136.out) (by decide)) BK133.out (by decide)) (fun k_ hk => ⟨hk.1.1.1.1.1, ⟨hk.1.2, hk.2⟩⟩))))) (Reps.one (show Kd.FK (Kd.slice 3 (Kd.int .i64)) _ _ y140 [.slice Ao12 y140.length co12] from (Kd.FK_slice_mk (Kd.R_reads' (Kd.R_mono (ok' := (fun k_ => (w.heap.size ≤ k_) ∧ some k_ ≠ (.slice Ao4 y134.length co4 : Value).ownBlock ∧ k_ ≠ gb133)) (Kd.R_types (Kd.R_apart' (HO142.out) (Kd.R_typed HO136.out) (by decide)) BK133.out (by decide)) (fun k_ hk => ⟨hk.1.1.1.1.1, ⟨hk.1.2, hk.2⟩⟩))).2.1 (Kd.R_F (Kd.R_mono (ok' := (fun k_ => (w.heap.size ≤ k_) ∧ some k_ ≠ (.slice Ao4 y134.length co4 : Value).ownBlock ∧ k_ ≠ gb133)) (Kd.R_types (Kd.R_apart' (HO142.out) (Kd.R_typed HO136.out) (by decide)) BK133.out (by decide)) (fun k_ hk => ⟨hk.1.1.1.1.1, ⟨hk.1.2, hk.2⟩⟩))))) (Reps.one (show Kd.FK (Kd.slice 3 (Kd.int .i64)) _ _ y143 [.slice Ao13 y143.length co13] from (Kd.FK_slice_mk (Kd.R_reads' (Kd.R_mono (ok' := (fun k_ => (w.heap.size ≤ k_) ∧ some k_ ≠ (.slice Ao4 y134.length co4 : Value).ownBlock ∧ k_ ≠ gb133)) (Kd.R_types (Kd.R_apart' (HO145.out) (Kd.R_typed HO136.out) (by decide)) BK133.out (by decide)) (fun k_ hk => ⟨hk.1.1.1.1.1, ⟨hk.1.2, hk.2⟩⟩))).2.1 (Kd.R_F (Kd.R_mono (ok' := (fun k_ => (w.heap.size ≤ k_) ∧ some k_ ≠ (.slice Ao4 y134.length co4 : Value).ownBlock ∧ k_ ≠ gb133)) (Kd.R_types (Kd.R_apart' (HO145.out) (Kd.R_typed HO136.out) (by decide)) BK133.out (by decide)) (fun k_ hk => ⟨hk.1.1.1.1.1, ⟨hk.1.2, hk.2⟩⟩))))) (Reps.none _ _))))); intro v147 w14 ho15 hb hg_ hnew_; clear hg_ hnew_; (first | rw [← Ny146.out] at ho15 | (simp only [Int.reduceToNat] at ho15; rw [← Ny146.out] at ho15)); have n0_ := Aside0.mk (Kd.R_below (by (with_reducible repeat (first | apply Kd.R_alloc | apply Kd.R_drewN | apply Kd.R_drew)); exact HO136.out) hb); have n1_ := Aside0.mk (Kd.N_lower ho15 (below_size (by repeat (first | (with_reducible first | exact HB.out | apply below_alloc | apply pw_below_drewN | apply below_drew1 | refine below_set ?_ GE133.out) | exact HB.out)))); have n2_ := Aside0.mk (blk_below (g := gb133) (o := .cells #[.int .i64 0, .slice none 0 0] 24 (0, 0)) (by (with_reducible repeat (first | refine blk_drewN ?_ _ | refine blk_drew ?_ | refine blk_alloc ?_ _)); exact BK133.out) hb); have n3_ := Aside0.mk (below_step (by repeat (first | (with_reducible first | exact HB.out | apply below_alloc | apply pw_below_drewN | apply below_drew1 | refine below_set ?_ GE133.out) | exact HB.out)) hb); clear HO136; clear BK133; clear HB; clear HO139; clear HO142; clear HO145; have HO136 := n0_; have HO148 := n1_; have BK133 := n2_; have HB := n3_; clear n0_ n1_ n2_ n3_; clear hb ho15; have hcz16_0 : w14.cell? ⟨gb133, 0, none⟩ = some (.int .i64 0) := (blk_cell BK133.out 0).trans rfl; have hcz16_1 : w14.cell? ⟨gb133, 1, none⟩ = some (.slice none 0 0) := (blk_cell BK133.out 1).trans rfl; have hfz16_0 := blk_frozen BK133.out 0; have hfz16_1 := blk_frozen BK133.out 1))
 refine bodyPost_ret (results_ct rfl _ _ gb133 24 #[.int .i64 3, .slice Ao4 y134.length co4] (0, 0) _ rfl (by (with_reducible repeat (first | refine blk_drewN ?_ _ | refine blk_drew ?_ | refine blk_alloc ?_ _)); refine blk_put (cs := #[.int .i64 3, .slice none 0 0]) ?_ 1 _ rfl; (with_reducible repeat (first | refine blk_drewN ?_ _ | refine blk_drew ?_ | refine blk_alloc ?_ _)); refine blk_put (cs := #[.int .i64 0, .slice none 0 0]) ?_ 0 _ rfl; (with_reducible repeat (first | refine blk_drewN ?_ _ | refine blk_drew ?_ | refine blk_alloc ?_ _)); exact BK133.out) Try.underlying24 rfl (by kernel_rfl)) rfl ?_
 exact ⟨_, _, by first | rfl | (simp [errW_none, errW_some] <;> rfl) | (simp [*, errW_none, errW_some] <;> rfl), by (with_reducible repeat (first | apply Kd.R_alloc | apply Kd.R_drewN | apply Kd.R_drew)); exact Kd.R_mono (Kd.R_far (p := ⟨gb133, 1, none⟩) (Kd.R_far (p := ⟨gb133, 0, none⟩) (Kd.R_types HO136.out BK133.out (by decide)) (fun _ hk => hk.2) (.int .i64 3)) (fun _ hk => hk.2) (.slice Ao4 y134.length co4)) (fun _ hk => hk.1.1), by (with_reducible repeat (first | apply Kd.N_alloc | apply Kd.N_drewN | apply Kd.N_drew)); exact Kd.N_mono (Kd.N_far (p := ⟨gb133, 1, none⟩) (Kd.N_far (p := ⟨gb133, 0, none⟩) (Kd.N_mono HO148.out (fun k_ hk => (⟨hk, hk.2.2⟩ : _ ∧ k_ ≠ gb133))) (fun _ hk => hk.2) (.int .i64 3)) (fun _ hk => hk.2) (.slice Ao4 y134.length co4)) (fun _ hk => ⟨hk.1.1, hk.1.2.1⟩), by repeat (first | (with_reducible first | exact HB.out | apply below_alloc | apply pw_below_drewN | apply below_drew1 | refine below_set ?_ GE133.out) | exact HB.out)⟩
end Go.Proofs.Yteeihjpnhjnknaa.GAll
namespace Go.Proofs.Yteeihjpnhjnknaa.GAll
open Go.RowKit Go.Proofs.YteeihjpnhjnknaaW.PrintWords Go.Proofs.YteeihjpnhjnknaaW.PrintLast Go.Proofs.YteeihjpnhjnknaaW.PrintMore
attribute [local go_sem] max2_int min2_int max_two min_two max_three min_three max_four min_four   -- for this text's walks alone
set_option linter.unusedVariables false
set_option linter.unusedSimpArgs false
def tangramlaw21_wakes.r : List (List Int) := [[0], [1, 2], [3]]
def tangramlaw21_wakes.es : List S89 := [⟨0, 1⟩, ⟨1, 2⟩]
set_option maxRecDepth 100000 in
theorem tangramlaw21_wakes.c0 : tangramlaw21_path.f = some (3, tangramlaw21_wakes.es, tangramlaw21_wakes.r) := by kernel_rfl
set_option maxRecDepth 100000 in
theorem tangramlaw21_wakes.c1 : canon_Code.f 40 3 tangramlaw21_wakes.es tangramlaw21_wakes.r = some ([1, 1, 2, 0, 2, 1, 1], 0) := by kernel_rfl
set_option maxRecDepth 100000 in
theorem tangramlaw21_wakes.c2 : canon_Rooted.f 40 3 tangramlaw21_wakes.es tangramlaw21_wakes.r 1 = some ([2, 1, 2, 1, 0, 1, 0], 0) := by kernel_rfl
set_option maxRecDepth 100000 in
theorem tangramlaw21_wakes.c3 : canon_Turns.f 40 3 tangramlaw21_wakes.es tangramlaw21_wakes.r = some (2, 0) := by kernel_rfl
set_option maxRecDepth 100000 in
theorem tangramlaw21_wakes.c4 : canon_Match.f 40 3 tangramlaw21_wakes.es tangramlaw21_wakes.r 3 tangramlaw21_wakes.es tangramlaw21_wakes.r = some ([0, 1, 2], true, 0) := by kernel_rfl
set_option maxRecDepth 100000 in
theorem tangramlaw21_wakes.c5 : canon_Code.f 40 1 [] [[]] = some ([], 210) := by kernel_rfl
theorem tangramlaw21_wakes.s1 : tangramref03_SameInts.f 40 [1, 1, 2, 0, 2, 1, 1] [1, 1, 2, 0, 2, 1, 1] = some true := by kernel_rfl
theorem tangramlaw21_wakes.s2 : tangramref03_SameInts.f 40 [2, 1, 2, 1, 0, 1, 0] [2, 1, 2, 1, 0, 1, 0] = some true := by kernel_rfl
theorem tangramlaw21_wakes.s3 : tangramref03_SameInts.f 40 [0, 1, 2] [0, 1, 2] = some true := by kernel_rfl
def tangramlaw21_wakes.f : Option Bool := some true
set_option maxHeartbeats 4000000 in
set_option maxRecDepth 100000 in
theorem tangramlaw21_wakes.calls (r : Bool) (w : World) (h : tangramlaw21_wakes.f = some r) :
   Calls Try.prog 11 #[] w fun e w' => e = .returned (.bool r) ∧ Below w.heap.size w w' := by
 obtain rfl : true = r := by simpa [tangramlaw21_wakes.f] using h
 clear h
 go_enter Try.func11, Try.ntmps11
 go_wp2_with fail
 refine (tangramlaw21_path.calls _ _ _ w tangramlaw21_wakes.c0).mono ?_
 rintro e w1 ⟨v1, v2, rfl, hR, hN, hb⟩
 have HB1 := Aside0.mk hb
 obtain ⟨A, c, rfl, hc, hC⟩ := Kd.R_reads hR
 obtain ⟨A1, c1, rfl, hc1, hC1⟩ := Kd.N_reads hN
 have HC1 := Aside0.mk hC
 have HL := Aside0.mk hc
 have HD1 := Aside0.mk hC1
 have HL1 := Aside0.mk hc1
 clear hb hR hN hC hC1 hc hc1
 have HX1 : Aside0 ((w1.alloc (.cells #[.int .i64 3, .slice A tangramlaw21_wakes.es.length c] 24 (0, 0))).heap[w1.heap.size]? = some (.cells #[.int .i64 3, .slice A tangramlaw21_wakes.es.length c] 24 (0, 0))) := ⟨Mem.heap_last w1 _⟩
 have hb : Below w1.heap.size w1 (w1.alloc (.cells #[.int .i64 3, .slice A tangramlaw21_wakes.es.length c] 24 (0, 0))) := (Below.refl _ _).alloc (Nat.le_refl _) _
 have HB2 := Aside0.mk (HB1.out.trans (hb.mono HB1.out.size))
 have HC2 := Aside0.mk (Kd.C_below HC1.out hb)
 have HD2 := Aside0.mk (Kd.C_below HD1.out hb)
 have x0 : (w1.alloc (.cells #[.int .i64 3, .slice A tangramlaw21_wakes.es.length c] 24 (0, 0))).cell? ⟨w1.heap.size, 0, none⟩ = some (.int .i64 3) := Mem.heap_cell HX1.out rfl
 have x1 : (w1.alloc (.cells #[.int .i64 3, .slice A tangramlaw21_wakes.es.length c] 24 (0, 0))).cell? ⟨w1.heap.size, 1, none⟩ = some (.slice A tangramlaw21_wakes.es.length c) := Mem.heap_cell HX1.out rfl
 clear hb HB1 HC1 HD1
 go_wp2_with fail
 generalize w1.alloc (.cells #[.int .i64 3, .slice A tangramlaw21_wakes.es.length c] 24 (0, 0)) = w2 at HX1 HB2 HC2 HD2 x0 x1 ⊢
 obtain ⟨b, hbb⟩ : ∃ b, b = w1.heap.size := ⟨_, rfl⟩
 rw [← hbb] at HX1 x0 x1 ⊢
 clear hbb
 refine (canon_Code.calls 40 3 A c tangramlaw21_wakes.es A1 c1 tangramlaw21_wakes.r _ _ w2 HC2.out HL.out HD2.out HL1.out tangramlaw21_wakes.c1).mono ?_
 rintro e w3 ⟨v, rfl, hR, hb⟩
 have HB3 := Aside0.mk (HB2.out.trans (hb.mono HB2.out.size))
 have HX3 := Aside0.mk ((hb.block _ (Mem.lt_of HX1.out)).trans HX1.out)
 have HC3 := Aside0.mk (Kd.C_below HC2.out hb)
 have HD3 := Aside0.mk (Kd.C_below HD2.out hb)
 clear HB2 HX1 HC2 HD2
 first | clear x0 x1 | skip
 have x0 : w3.cell? ⟨b, 0, none⟩ = some (.int .i64 3) := Mem.heap_cell HX3.out rfl
 have x1 : w3.cell? ⟨b, 1, none⟩ = some (.slice A tangramlaw21_wakes.es.length c) := Mem.heap_cell HX3.out rfl
 clear hb
 obtain ⟨A3, c3, e3, hc, hC⟩ := Kd.R_reads hR
 have HR3 := Aside0.mk hC
 have HL3 := Aside0.mk hc
 clear hR hC hc
 subst e3
 go_wp2_with fail
 refine (canon_Rooted.calls 40 3 A c tangramlaw21_wakes.es A1 c1 tangramlaw21_wakes.r 1 _ _ w3 HC3.out HL.out HD3.out HL1.out tangramlaw21_wakes.c2).mono ?_
 rintro e w4 ⟨v, rfl, hR, hb⟩
 have HB4 := Aside0.mk (HB3.out.trans (hb.mono HB3.out.size))
 have HX4 := Aside0.mk ((hb.block _ (Mem.lt_of HX3.out)).trans HX3.out)
 have HC4 := Aside0.mk (Kd.C_below HC3.out hb)
 have HD4 := Aside0.mk (Kd.C_below HD3.out hb)
 clear HB3 HX3 HC3 HD3
 first | clear x0 x1 | skip
 have x0 : w4.cell? ⟨b, 0, none⟩ = some (.int .i64 3) := Mem.heap_cell HX4.out rfl
 have x1 : w4.cell? ⟨b, 1, none⟩ = some (.slice A tangramlaw21_wakes.es.length c) := Mem.heap_cell HX4.out rfl
 have HR3a := Aside0.mk (Kd.C_below HR3.out hb)
 clear HR3
 clear hb
 obtain ⟨A4, c4, e4, hc, hC⟩ := Kd.R_reads hR
 have HR4 := Aside0.mk hC
 have HL4 := Aside0.mk hc
 clear hR hC hc
 subst e4
 go_wp2_with fail
 refine (canon_Turns.calls 40 3 A c tangramlaw21_wakes.es A1 c1 tangramlaw21_wakes.r _ _ w4 HC4.out HL.out HD4.out HL1.out tangramlaw21_wakes.c3).mono ?_
 rintro e w5 ⟨rfl, hb⟩
 have HB5 := Aside0.mk (HB4.out.trans (hb.mono HB4.out.size))
 have HX5 := Aside0.mk ((hb.block _ (Mem.lt_of HX4.out)).trans HX4.out)
 have HC5 := Aside0.mk (Kd.C_below HC4.out hb)
 have HD5 := Aside0.mk (Kd.C_below HD4.out hb)
 clear HB4 HX4 HC4 HD4
 first | clear x0 x1 | skip
 have x0 : w5.cell? ⟨b, 0, none⟩ = some (.int .i64 3) := Mem.heap_cell HX5.out rfl
 have x1 : w5.cell? ⟨b, 1, none⟩ = some (.slice A tangramlaw21_wakes.es.length c) := Mem.heap_cell HX5.out rfl
 have HR3b := Aside0.mk (Kd.C_below HR3a.out hb)
 clear HR3a
 have HR4a := Aside0.mk (Kd.C_below HR4.out hb)
 clear HR4
 clear hb
 go_wp2_with fail
 refine (canon_Match.calls 40 3 A c tangramlaw21_wakes.es A1 c1 tangramlaw21_wakes.r 3 A c tangramlaw21_wakes.es A1 c1 tangramlaw21_wakes.r _ _ _ w5 HC5.out HL.out HD5.out HL1.out HC5.out HL.out HD5.out HL1.out tangramlaw21_wakes.c4).mono ?_
 rintro e w6 ⟨v, rfl, hR, hb⟩
 have HB6 := Aside0.mk (HB5.out.trans (hb.mono HB5.out.size))
 have HX6 := Aside0.mk ((hb.block _ (Mem.lt_of HX5.out)).trans HX5.out)
 have HC6 := Aside0.mk (Kd.C_below HC5.out hb)
 have HD6 := Aside0.mk (Kd.C_below HD5.out hb)
 clear HB5 HX5 HC5 HD5
 first | clear x0 x1 | skip
 have x0 : w6.cell? ⟨b, 0, none⟩ = some (.int .i64 3) := Mem.heap_cell HX6.out rfl
 have x1 : w6.cell? ⟨b, 1, none⟩ = some (.slice A tangramlaw21_wakes.es.length c) := Mem.heap_cell HX6.out rfl
 have HR3c := Aside0.mk (Kd.C_below HR3b.out hb)
 clear HR3b
 have HR4b := Aside0.mk (Kd.C_below HR4a.out hb)
 clear HR4a
 clear hb x0 x1
 obtain ⟨A6, c6, e6, hc, hC⟩ := Kd.R_reads hR
 have HR6 := Aside0.mk hC
 have HL6 := Aside0.mk hc
 clear hR hC hc
 subst e6
 have HQ7 : Aside0 (Kd.C Mem.KR ((Mem.lits w6 [[]]).alloc (.cells (Mem.outer w6.heap.size [[]]).toArray 32 (0, 0))) (some ⟨w6.heap.size + 1, 0, none⟩) 1 [[]]) := ⟨Mem.lits_reads w6 [[]] (by decide) (by decide)⟩
 have hb := Mem.lits_all w6 [[]]
 have HB7 := Aside0.mk (HB6.out.trans (hb.mono HB6.out.size))
 have HR3d := Aside0.mk (Kd.C_below HR3c.out hb)
 clear HR3c
 have HR4c := Aside0.mk (Kd.C_below HR4b.out hb)
 clear HR4b
 have HR6a := Aside0.mk (Kd.C_below HR6.out hb)
 clear HR6
 clear hb HB6 HX6 HC6 HD6
 go_wp2_with fail
 show Calls _ _ _ ((Mem.lits w6 [[]]).alloc (.cells (Mem.outer w6.heap.size [[]]).toArray 32 (0, 0))) _
 generalize (Mem.lits w6 [[]]).alloc (.cells (Mem.outer w6.heap.size [[]]).toArray 32 (0, 0)) = w7 at HQ7 HB7 HR3d HR4c HR6a ⊢
 refine (canon_Code.calls 40 1 none 0 [] (some ⟨w6.heap.size + 1, 0, none⟩) 1 [[]] _ _ w7 (Kd.C_nil _ _) (by decide) HQ7.out (by decide) tangramlaw21_wakes.c5).mono ?_
 rintro e w8 ⟨v, rfl, hR, hb⟩
 have HB8 := Aside0.mk (HB7.out.trans (hb.mono HB7.out.size))
 have HR3e := Aside0.mk (Kd.C_below HR3d.out hb)
 clear HR3d
 have HR4d := Aside0.mk (Kd.C_below HR4c.out hb)
 clear HR4c
 have HR6b := Aside0.mk (Kd.C_below HR6a.out hb)
 clear HR6a
 clear hb hR HQ7 HB7
 have HIX : Aside0 (Mem.IRow (w8.alloc (.cells #[.int .i64 1, .int .i64 1, .int .i64 2, .int .i64 0, .int .i64 2, .int .i64 1, .int .i64 1] 3 (0, 0))) w8.heap.size [1, 1, 2, 0, 2, 1, 1]) := ⟨Mem.heap_last w8 _⟩
 have hb := (Below.refl w8.heap.size w8).alloc (Nat.le_refl _) (.cells #[.int .i64 1, .int .i64 1, .int .i64 2, .int .i64 0, .int .i64 2, .int .i64 1, .int .i64 1] 3 (0, 0))
 have HBx := Aside0.mk (HB8.out.trans (hb.mono HB8.out.size))
 have HR3f := Aside0.mk (Kd.C_below HR3e.out hb)
 clear HR3e
 have HR4e := Aside0.mk (Kd.C_below HR4d.out hb)
 clear HR4d
 have HR6c := Aside0.mk (Kd.C_below HR6b.out hb)
 clear HR6b
 clear hb HB8
 go_wp2_with fail
 generalize w8.alloc (.cells #[.int .i64 1, .int .i64 1, .int .i64 2, .int .i64 0, .int .i64 2, .int .i64 1, .int .i64 1] 3 (0, 0)) = wx at HIX HBx HR3f HR4e HR6c ⊢
 refine (tangramref03_SameInts.calls 40 A3 c3 [1, 1, 2, 0, 2, 1, 1] (some ⟨w8.heap.size, 0, none⟩) 7 [1, 1, 2, 0, 2, 1, 1] true wx HR3f.out HL3.out (Mem.row_reads HIX.out (by decide)) (by decide) tangramlaw21_wakes.s1).mono ?_
 rintro e w9 ⟨rfl, hd⟩
 have hb := hd.below
 have HB9 := Aside0.mk (HBx.out.trans (hb.mono HBx.out.size))
 have HR4f := Aside0.mk (Kd.C_below HR4e.out hb)
 clear HR4e
 have HR6d := Aside0.mk (Kd.C_below HR6c.out hb)
 clear HR6c
 clear hb hd HIX HBx HR3f
 have HIX : Aside0 (Mem.IRow (w9.alloc (.cells #[.int .i64 2, .int .i64 1, .int .i64 2, .int .i64 1, .int .i64 0, .int .i64 1, .int .i64 0] 3 (0, 0))) w9.heap.size [2, 1, 2, 1, 0, 1, 0]) := ⟨Mem.heap_last w9 _⟩
 have hb := (Below.refl w9.heap.size w9).alloc (Nat.le_refl _) (.cells #[.int .i64 2, .int .i64 1, .int .i64 2, .int .i64 1, .int .i64 0, .int .i64 1, .int .i64 0] 3 (0, 0))
 have HBx := Aside0.mk (HB9.out.trans (hb.mono HB9.out.size))
 have HR4g := Aside0.mk (Kd.C_below HR4f.out hb)
 clear HR4f
 have HR6e := Aside0.mk (Kd.C_below HR6d.out hb)
 clear HR6d
 clear hb HB9
 go_wp2_with fail
 generalize w9.alloc (.cells #[.int .i64 2, .int .i64 1, .int .i64 2, .int .i64 1, .int .i64 0, .int .i64 1, .int .i64 0] 3 (0, 0)) = wx at HIX HBx HR4g HR6e ⊢
 refine (tangramref03_SameInts.calls 40 A4 c4 [2, 1, 2, 1, 0, 1, 0] (some ⟨w9.heap.size, 0, none⟩) 7 [2, 1, 2, 1, 0, 1, 0] true wx HR4g.out HL4.out (Mem.row_reads HIX.out (by decide)) (by decide) tangramlaw21_wakes.s2).mono ?_
 rintro e w10 ⟨rfl, hd⟩
 have hb := hd.below
 have HB10 := Aside0.mk (HBx.out.trans (hb.mono HBx.out.size))
 have HR6f := Aside0.mk (Kd.C_below HR6e.out hb)
 clear HR6e
 clear hb hd HIX HBx HR4g
 have HIX : Aside0 (Mem.IRow (w10.alloc (.cells #[.int .i64 0, .int .i64 1, .int .i64 2] 3 (0, 0))) w10.heap.size [0, 1, 2]) := ⟨Mem.heap_last w10 _⟩
 have hb := (Below.refl w10.heap.size w10).alloc (Nat.le_refl _) (.cells #[.int .i64 0, .int .i64 1, .int .i64 2] 3 (0, 0))
 have HBx := Aside0.mk (HB10.out.trans (hb.mono HB10.out.size))
 have HR6g := Aside0.mk (Kd.C_below HR6f.out hb)
 clear HR6f
 clear hb HB10
 go_wp2_with fail
 generalize w10.alloc (.cells #[.int .i64 0, .int .i64 1, .int .i64 2] 3 (0, 0)) = wx at HIX HBx HR6g ⊢
 refine (tangramref03_SameInts.calls 40 A6 c6 [0, 1, 2] (some ⟨w10.heap.size, 0, none⟩) 3 [0, 1, 2] true wx HR6g.out HL6.out (Mem.row_reads HIX.out (by decide)) (by decide) tangramlaw21_wakes.s3).mono ?_
 rintro e w11 ⟨rfl, hd⟩
 have hb := hd.below
 have HB11 := Aside0.mk (HBx.out.trans (hb.mono HBx.out.size))
 clear hb hd HIX HBx HR6g
 go_wp2_with fail
 go_ret
 exact ⟨rfl, HB11.out⟩
end Go.Proofs.Yteeihjpnhjnknaa.GAll
namespace Go.Proofs.Yteeihjpnhjnknaa.Rot
open Go.RowKit Go.Proofs.YteeihjpnhjnknaaW.PrintWords Go.Proofs.YteeihjpnhjnknaaW.PrintLast Go.Proofs.YteeihjpnhjnknaaW.PrintMore Go.Proofs.Yteeihjpnhjnknaa.GAll Go.Proofs.Yteeihjpnhjnknaa.Mem Go.Proofs.Yteeihjpnhjnknaa.Seen
set_option linter.unusedVariables false
set_option linter.unusedSimpArgs false
set_option maxHeartbeats 4000000 in
set_option maxRecDepth 100000 in
theorem matches_walk (k : Nat) (n1 : Int) (A1 : Option Addr) (c1 : Nat) (l1 : List Ed) (R1 : Option Addr) (d1 : Nat) (r1 : List (List Int)) (n2 : Int) (A2 : Option Addr) (c2 : Nat) (l2 : List Ed) (R2 : Option Addr) (d2 : Nat) (r2 : List (List Int)) (w : World)
   (hl1 : Kd.C k89 w A1 l1.length l1) (hc1 : l1.length ≤ c1) (hr1 : Kd.C (Kd.slice 3 (Kd.int .i64)) w R1 r1.length r1) (hd1 : r1.length ≤ d1) (hl2 : Kd.C k89 w A2 l2.length l2) (hc2 : l2.length ≤ c2) (hr2 : Kd.C (Kd.slice 3 (Kd.int .i64)) w R2 r2.length r2) (hd2 : r2.length ≤ d2)
   (o : List Int) (z : Bool) (e : Int) (h1 : tangramlaw21_copied.f k n1 l1 r1 = some (n1, l1, r1)) (h2 : tangramlaw21_copied.f k n2 l2 r2 = some (n2, l2, r2)) (h3 : canon_Match.f k n1 l1 r1 n2 l2 r2 = some (o, z, e)) (h4 : tangramref21_Match.f k n1 l1 r1 n2 l2 r2 = some (o, z, e)) (h5 : tangramref03_SameInts.f k o o = some true) :
   Calls Try.prog 5 #[.agg #[.int .i64 n1, .slice A1 l1.length c1, .slice R1 r1.length d1], .agg #[.int .i64 n2, .slice A2 l2.length c2, .slice R2 r2.length d2]] w fun e w' => e = .returned (.bool true) ∧ Below w.heap.size w w' := by
 have HB : Aside0 (Below w.heap.size w ((w.alloc (.cells #[.int .i64 n1, .slice A1 l1.length c1, .slice R1 r1.length d1] 31 (0, 0))).alloc (.cells #[.int .i64 n2, .slice A2 l2.length c2, .slice R2 r2.length d2] 31 (0, 0)))) := ⟨((Below.refl _ _).alloc (Nat.le_refl _) _).alloc (by simp) _⟩
 have HX : Aside0 (((w.alloc (.cells #[.int .i64 n1, .slice A1 l1.length c1, .slice R1 r1.length d1] 31 (0, 0))).alloc (.cells #[.int .i64 n2, .slice A2 l2.length c2, .slice R2 r2.length d2] 31 (0, 0))).heap[w.heap.size]? = some (.cells #[.int .i64 n1, .slice A1 l1.length c1, .slice R1 r1.length d1] 31 (0, 0))) := ⟨heap_old (heap_last w _) _⟩
 have HY : Aside0 (((w.alloc (.cells #[.int .i64 n1, .slice A1 l1.length c1, .slice R1 r1.length d1] 31 (0, 0))).alloc (.cells #[.int .i64 n2, .slice A2 l2.length c2, .slice R2 r2.length d2] 31 (0, 0))).heap[w.heap.size + 1]? = some (.cells #[.int .i64 n2, .slice A2 l2.length c2, .slice R2 r2.length d2] 31 (0, 0))) := ⟨by
   have := heap_last (w.alloc (.cells #[.int .i64 n1, .slice A1 l1.length c1, .slice R1 r1.length d1] 31 (0, 0))) (.cells #[.int .i64 n2, .slice A2 l2.length c2, .slice R2 r2.length d2] 31 (0, 0))
   simpa using this⟩
 have HL1 := Aside0.mk hl1
 have HL2 := Aside0.mk hl2
 have HR1 := Aside0.mk hr1
 have HR2 := Aside0.mk hr2
 have HC1 := Aside0.mk hc1
 have HC2 := Aside0.mk hc2
 have HD1 := Aside0.mk hd1
 have HD2 := Aside0.mk hd2
 have H1 := Aside0.mk h1
 have H2 := Aside0.mk h2
 have H3 := Aside0.mk h3
 have H4 := Aside0.mk h4
 have H5 := Aside0.mk h5
 clear hl1 hl2 hr1 hr2 hc1 hc2 hd1 hd2 h1 h2 h3 h4 h5
 go_enter Try.func5, Try.ntmps5
 go_upto_region 1 with (fail)
 obtain ⟨b2, hb2⟩ : ∃ b2, b2 = w.heap.size + 1 := ⟨_, rfl⟩
 rw [← hb2] at HY ⊢
 obtain ⟨b1, hb1⟩ : ∃ b1, b1 = w.heap.size := ⟨_, rfl⟩
 rw [← hb1] at HX ⊢
 have HBB := Aside0.mk hb1
 clear hb1 hb2
 generalize (w.alloc (.cells #[.int .i64 n1, .slice A1 l1.length c1, .slice R1 r1.length d1] 31 (0, 0))).alloc (.cells #[.int .i64 n2, .slice A2 l2.length c2, .slice R2 r2.length d2] 31 (0, 0)) = w1 at HX HY HB ⊢
 go_wp2_with fail
 refine (tangramlaw21_wakes.calls true _ rfl).mono ?_
 rintro e' w2 ⟨rfl, hb⟩
 have HB2 := Aside0.mk (HB.out.trans (hb.mono HB.out.size))
 have HX2 := Aside0.mk ((hb.block _ (lt_of HX.out)).trans HX.out)
 have HY2 := Aside0.mk ((hb.block _ (lt_of HY.out)).trans HY.out)
 clear HB HX HY
 clear hb
 have x0 : w2.cell? ⟨b1, 0, none⟩ = some (.int .i64 n1) := heap_cell HX2.out rfl
 have x1 : w2.cell? ⟨b1, 1, none⟩ = some (.slice A1 l1.length c1) := heap_cell HX2.out rfl
 have x2 : w2.cell? ⟨b1, 2, none⟩ = some (.slice R1 r1.length d1) := heap_cell HX2.out rfl
 have y0 : w2.cell? ⟨b2, 0, none⟩ = some (.int .i64 n2) := heap_cell HY2.out rfl
 have y1 : w2.cell? ⟨b2, 1, none⟩ = some (.slice A2 l2.length c2) := heap_cell HY2.out rfl
 have y2 : w2.cell? ⟨b2, 2, none⟩ = some (.slice R2 r2.length d2) := heap_cell HY2.out rfl
 go_wp2_with fail
 clear x0 x1 x2 y0 y1 y2
 refine (tangramlaw21_copied.calls k n1 A1 c1 l1 R1 d1 r1 n1 l1 r1 w2 (Kd.C_below HL1.out HB2.out) HC1.out (Kd.C_below HR1.out HB2.out) HD1.out H1.out).mono ?_
 rintro e' w3 ⟨u1, u2, rfl, hL, hS, hb⟩
 obtain ⟨B1, f1, rfl, hc2, hL⟩ := Kd.R_reads hL
 obtain ⟨S1, g1, rfl, hc3, hS⟩ := Kd.S_reads hS
 have HF1 := Aside0.mk hc2
 have HG1 := Aside0.mk hc3
 have HB3 := Aside0.mk (HB2.out.trans (hb.mono HB2.out.size))
 have HX3 := Aside0.mk ((hb.block _ (lt_of HX2.out)).trans HX2.out)
 have HY3 := Aside0.mk ((hb.block _ (lt_of HY2.out)).trans HY2.out)
 clear HB2 HX2 HY2
 clear hb hc2 hc3
 obtain ⟨w4, hw4⟩ : ∃ w4, w4 = w3.alloc (.cells #[.int .i64 n1, .slice B1 l1.length f1] 24 (0, 0)) := ⟨_, rfl⟩
 have hb : Below w3.heap.size w3 w4 := by rw [hw4]; exact (Below.refl _ _).alloc (Nat.le_refl _) _
 obtain ⟨b3, hb3⟩ : ∃ b3, b3 = w3.heap.size := ⟨_, rfl⟩
 have HZ4 : Aside0 (w4.heap[b3]? = some (.cells #[.int .i64 n1, .slice B1 l1.length f1] 24 (0, 0))) := ⟨by rw [hw4, hb3]; exact heap_last _ _⟩
 have HB4 := Aside0.mk (HB3.out.trans (hb.mono HB3.out.size))
 have HX4 := Aside0.mk ((hb.block _ (lt_of HX3.out)).trans HX3.out)
 have HY4 := Aside0.mk ((hb.block _ (lt_of HY3.out)).trans HY3.out)
 clear HB3 HX3 HY3
 have HM4 := Aside0.mk (Kd.C_below hL hb)
 have HS4 := Aside0.mk (Kd.C_below hS hb)
 clear hb hL hS
 go_upto_region 4 with (fail)
 rw [← hb3, ← hw4]
 clear hb3 hw4
 have x0 : w4.cell? ⟨b1, 0, none⟩ = some (.int .i64 n1) := heap_cell HX4.out rfl
 have x1 : w4.cell? ⟨b1, 1, none⟩ = some (.slice A1 l1.length c1) := heap_cell HX4.out rfl
 have x2 : w4.cell? ⟨b1, 2, none⟩ = some (.slice R1 r1.length d1) := heap_cell HX4.out rfl
 have y0 : w4.cell? ⟨b2, 0, none⟩ = some (.int .i64 n2) := heap_cell HY4.out rfl
 have y1 : w4.cell? ⟨b2, 1, none⟩ = some (.slice A2 l2.length c2) := heap_cell HY4.out rfl
 have y2 : w4.cell? ⟨b2, 2, none⟩ = some (.slice R2 r2.length d2) := heap_cell HY4.out rfl
 go_wp2_with fail
 clear x0 x1 x2 y0 y1 y2
 refine (tangramlaw21_copied.calls k n2 A2 c2 l2 R2 d2 r2 n2 l2 r2 w4 (Kd.C_below HL2.out HB4.out) HC2.out (Kd.C_below HR2.out HB4.out) HD2.out H2.out).mono ?_
 rintro e' w5 ⟨u1, u2, rfl, hL, hS, hb⟩
 obtain ⟨B2, f2, rfl, hc2, hL⟩ := Kd.R_reads hL
 obtain ⟨S2, g2, rfl, hc3, hS⟩ := Kd.S_reads hS
 have HF2 := Aside0.mk hc2
 have HG2 := Aside0.mk hc3
 have HB5 := Aside0.mk (HB4.out.trans (hb.mono HB4.out.size))
 have HX5 := Aside0.mk ((hb.block _ (lt_of HX4.out)).trans HX4.out)
 have HY5 := Aside0.mk ((hb.block _ (lt_of HY4.out)).trans HY4.out)
 clear HB4 HX4 HY4
 have HZ5 := Aside0.mk ((hb.block _ (lt_of HZ4.out)).trans HZ4.out)
 have HM5 := Aside0.mk (Kd.C_below HM4.out hb)
 have HS5 := Aside0.mk (Kd.C_below HS4.out hb)
 clear hb hc2 hc3 HZ4 HM4 HS4
 obtain ⟨w6, hw6⟩ : ∃ w6, w6 = w5.alloc (.cells #[.int .i64 n2, .slice B2 l2.length f2] 24 (0, 0)) := ⟨_, rfl⟩
 have hb : Below w5.heap.size w5 w6 := by rw [hw6]; exact (Below.refl _ _).alloc (Nat.le_refl _) _
 obtain ⟨b4, hb4⟩ : ∃ b4, b4 = w5.heap.size := ⟨_, rfl⟩
 have HU6 : Aside0 (w6.heap[b4]? = some (.cells #[.int .i64 n2, .slice B2 l2.length f2] 24 (0, 0))) := ⟨by rw [hw6, hb4]; exact heap_last _ _⟩
 have HB6 := Aside0.mk (HB5.out.trans (hb.mono HB5.out.size))
 have HX6 := Aside0.mk ((hb.block _ (lt_of HX5.out)).trans HX5.out)
 have HY6 := Aside0.mk ((hb.block _ (lt_of HY5.out)).trans HY5.out)
 clear HB5 HX5 HY5
 have HZ6 := Aside0.mk ((hb.block _ (lt_of HZ5.out)).trans HZ5.out)
 have HM6 := Aside0.mk (Kd.C_below HM5.out hb)
 have HS6 := Aside0.mk (Kd.C_below HS5.out hb)
 have HN6 := Aside0.mk (Kd.C_below hL hb)
 have HT6 := Aside0.mk (Kd.C_below hS hb)
 clear hb hL hS HZ5 HM5 HS5
 go_upto_region 5 with (fail)
 rw [← hb4, ← hw6]
 clear hb4 hw6
 have z0 : w6.cell? ⟨b3, 0, none⟩ = some (.int .i64 n1) := heap_cell HZ6.out rfl
 have z1 : w6.cell? ⟨b3, 1, none⟩ = some (.slice B1 l1.length f1) := heap_cell HZ6.out rfl
 have z2 : w6.cell? ⟨b4, 0, none⟩ = some (.int .i64 n2) := heap_cell HU6.out rfl
 have z3 : w6.cell? ⟨b4, 1, none⟩ = some (.slice B2 l2.length f2) := heap_cell HU6.out rfl
 go_wp2_with fail
 clear z0 z1 z2 z3
 refine (canon_Match.calls k n1 B1 f1 l1 S1 g1 r1 n2 B2 f2 l2 S2 g2 r2 o z e w6 HM6.out HF1.out HS6.out HG1.out HN6.out HF2.out HT6.out HG2.out H3.out).mono ?_
 rintro e' w7 ⟨v, rfl, hR, hb⟩
 obtain ⟨D1, p1, rfl, hcc, hC⟩ := Kd.R_reads hR
 have HP1 := Aside0.mk hcc
 have HV7 := Aside0.mk hC
 have HB7 := Aside0.mk (HB6.out.trans (hb.mono HB6.out.size))
 have HX7 := Aside0.mk ((hb.block _ (lt_of HX6.out)).trans HX6.out)
 have HY7 := Aside0.mk ((hb.block _ (lt_of HY6.out)).trans HY6.out)
 clear HB6 HX6 HY6
 clear hb hR hcc hC HM6 HS6 HN6 HT6 HZ6 HU6
 have x0 : w7.cell? ⟨b1, 0, none⟩ = some (.int .i64 n1) := heap_cell HX7.out rfl
 have x1 : w7.cell? ⟨b1, 1, none⟩ = some (.slice A1 l1.length c1) := heap_cell HX7.out rfl
 have x2 : w7.cell? ⟨b1, 2, none⟩ = some (.slice R1 r1.length d1) := heap_cell HX7.out rfl
 have y0 : w7.cell? ⟨b2, 0, none⟩ = some (.int .i64 n2) := heap_cell HY7.out rfl
 have y1 : w7.cell? ⟨b2, 1, none⟩ = some (.slice A2 l2.length c2) := heap_cell HY7.out rfl
 have y2 : w7.cell? ⟨b2, 2, none⟩ = some (.slice R2 r2.length d2) := heap_cell HY7.out rfl
 go_wp2_with fail
 clear x0 x1 x2 y0 y1 y2
 refine (tangramref21_Match.calls k n1 A1 c1 l1 R1 d1 r1 n2 A2 c2 l2 R2 d2 r2 o z e w7 (Kd.C_below HL1.out HB7.out) HC1.out (Kd.C_below HR1.out HB7.out) HD1.out (Kd.C_below HL2.out HB7.out) HC2.out (Kd.C_below HR2.out HB7.out) HD2.out H4.out).mono ?_
 rintro e' w8 ⟨v, rfl, hR, hb⟩
 obtain ⟨D2, p2, rfl, hcc, hC⟩ := Kd.R_reads hR
 have HP2 := Aside0.mk hcc
 have HW8 := Aside0.mk hC
 have HV8 := Aside0.mk (Kd.C_below HV7.out hb)
 have HB8 := Aside0.mk (HB7.out.trans (hb.mono HB7.out.size))
 have HX8 := Aside0.mk ((hb.block _ (lt_of HX7.out)).trans HX7.out)
 have HY8 := Aside0.mk ((hb.block _ (lt_of HY7.out)).trans HY7.out)
 clear HB7 HX7 HY7
 clear hb hR hcc hC HV7
 go_wp2_with fail
 refine (tangramref03_SameInts.calls k D1 p1 o D2 p2 o true w8 HV8.out HP1.out HW8.out HP2.out H5.out).mono ?_
 rintro e' w9 ⟨rfl, hd⟩
 have HB9 := Aside0.mk (HB8.out.trans (hd.below.mono HB8.out.size))
 clear hd
 go_wp2_with fail
 go_ret
 exact ⟨by simp, HB9.out⟩
theorem CanonMatches (n1 : Int) (A1 : Option Addr) (c1 : Nat) (l1 : List Ed) (R1 : Option Addr) (d1 : Nat) (r1 : List (List Int)) (n2 : Int) (A2 : Option Addr) (c2 : Nat) (l2 : List Ed) (R2 : Option Addr) (d2 : Nat) (r2 : List (List Int)) (w : World)
   (hl1 : Kd.C k89 w A1 l1.length l1) (hc1 : l1.length ≤ c1) (hr1 : Kd.C (Kd.slice 3 (Kd.int .i64)) w R1 r1.length r1) (hd1 : r1.length ≤ d1) (hl2 : Kd.C k89 w A2 l2.length l2) (hc2 : l2.length ≤ c2) (hr2 : Kd.C (Kd.slice 3 (Kd.int .i64)) w R2 r2.length r2) (hd2 : r2.length ≤ d2)
   (g0 : (Open.I64 n1 ∧ l1.length * 16 ≤ 140737488351232 ∧ ∀ x ∈ l1, Open.I64 x.f0 ∧ Open.I64 x.f1) ∧ (r1.length * 24 ≤ 140737488351232 ∧ ∀ x ∈ r1, x.length * 8 ≤ 140737488351232 ∧ ∀ y ∈ x, Open.I64 y))
   (g1 : (Open.I64 n2 ∧ l2.length * 16 ≤ 140737488351232 ∧ ∀ x ∈ l2, Open.I64 x.f0 ∧ Open.I64 x.f1) ∧ (r2.length * 24 ≤ 140737488351232 ∧ ∀ x ∈ r2, x.length * 8 ≤ 140737488351232 ∧ ∀ y ∈ x, Open.I64 y)) :
   Calls Try.prog 5 #[.agg #[.int .i64 n1, .slice A1 l1.length c1, .slice R1 r1.length d1], .agg #[.int .i64 n2, .slice A2 l2.length c2, .slice R2 r2.length d2]] w fun e w' => e = .returned (.bool true) ∧ Below w.heap.size w w' := by
 have hs1 : Small r1 := ⟨g0.2.1, fun l hl => (g0.2.2 l hl).1⟩
 have hs2 : Small r2 := ⟨g1.2.1, fun l hl => (g1.2.2 l hl).1⟩
 obtain ⟨o, z, e, ⟨K1, h1⟩, ⟨K2, h2⟩, hl⟩ := match_both n1 l1 r1 n2 l2 r2 hs1 hs2
 obtain ⟨K3, h3⟩ := copied_ev n1 l1 r1 (by omega) hs1
 obtain ⟨K4, h4⟩ := copied_ev n2 l2 r2 (by omega) hs2
 obtain ⟨K5, h5⟩ := ints_same hl
 exact matches_walk (K1 + K2 + K3 + K4 + K5) n1 A1 c1 l1 R1 d1 r1 n2 A2 c2 l2 R2 d2 r2 w hl1 hc1 hr1 hd1 hl2 hc2 hr2 hd2 o z e (h3 _ (by omega)) (h4 _ (by omega)) (h1 _ (by omega)) (h2 _ (by omega)) (h5 _ (by omega))
end Go.Proofs.Yteeihjpnhjnknaa.Rot
