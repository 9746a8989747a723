/- DERIVED. Texts of this seat, one behind the other: lemmas and walks that the statement FacesTurned needs. No condition. -/
import Derived.Test.YtmikcfddipldnaaCFacesTurnedb
import Derived.Test.YtmikcfddipldnaaCFacesTurnedc
import Derived.Test.YtmikcfddipldnaaCFacesTurneda
import Derived.SizedLaws
import Derived.ChangeSlices
import Derived.ProofKit
import Derived.OpenShut
import Derived.ChangeOld
import Derived.Deep.Slices
namespace Go.Proofs.Ytmikcfddipldnaa.GAll
open Go.RowKit Go.Proofs.YtmikcfddipldnaaW.PrintWords Go.Proofs.YtmikcfddipldnaaW.PrintLast Go.Proofs.YtmikcfddipldnaaW.PrintMore
attribute [local go_sem] max2_int min2_int max_two min_two max_three min_three max_four min_four   -- for this text's walks alone
set_option linter.unusedVariables false
set_option linter.unusedSimpArgs false
def faces_Left.f (k : Nat) (a0_0 : Int) (l0_1 : List S56) (l1 : List (List Int)) : Option (List Int × Int) := (faces_Of.f k a0_0 l0_1 l1).bind fun t => if t.2 = 0 then (if Face.fitL t.1 l0_1.length = true then some (Face.leftL t.1 (2 * l0_1.length), 0) else none) else some ([], t.2)
theorem faces_Left.mono : ∀ a0 a1 a2 k, LeO (faces_Left.f k a0 a1 a2) (faces_Left.f (k + 1) a0 a1 a2) := by
 intro a0 a1 a2 k
 unfold faces_Left.f
 exact LeO.bind (faces_Of.mono _ _ _ _) (fun _ => LeO.refl _)
theorem faces_Left.calls (k : Nat) (a0_0 : Int) (A0_1 : Option Addr) (c0_1 : Nat) (l0_1 : List (S56)) (A1 : Option Addr) (c1 : Nat) (l1 : List (List Int)) (r1 : List Int) (r2 : Int) (w : World) (hr0_1 : Kd.C k56 w A0_1 l0_1.length l0_1) (hc0_1 : l0_1.length ≤ c0_1) (hr1 : Kd.C (Kd.slice 3 (Kd.int .i64)) w A1 l1.length l1) (hc1 : l1.length ≤ c1) (h : faces_Left.f k a0_0 l0_1 l1 = some (r1, r2)) :
   Calls Try.prog 15 #[.agg #[.int .i64 a0_0, .slice A0_1 l0_1.length c0_1], .slice A1 l1.length c1] w fun e w' => ∃ v0_ : Value, e = .returned (.tuple #[v0_, .int .i64 r2]) ∧ Kd.R (Kd.int .i64) 3 w' w.heap.size (fun _ => True) v0_ r1 ∧ Below w.heap.size w w' := by
 obtain ⟨⟨fs, e0⟩, ht, h⟩ := Option.bind_eq_some_iff.mp h
 have hof : Face.OfSaysL fs e0 a0_0 A0_1 l0_1.length c0_1 A1 l1.length c1 w := fun W hW => (faces_Of.calls k a0_0 A0_1 c0_1 l0_1 A1 c1 l1 fs e0 W (Kd.C_below hr0_1 hW) hc0_1 (Kd.C_below hr1 hW) hc1 ht).mono fun e w' ⟨v, h1, h2, h3⟩ => ⟨v, h1, Kd.S_R h2, h3⟩
 by_cases he : e0 = 0
 · subst he
   rw [if_pos rfl] at h
   by_cases hf : Face.fitL fs l0_1.length = true
   · rw [if_pos hf] at h
     obtain ⟨rfl, rfl⟩ : Face.leftL fs (2 * l0_1.length) = r1 ∧ 0 = r2 := by simpa using h
     exact Face.left_ok a0_0 A0_1 l0_1.length c0_1 A1 l1.length c1 fs w (Face.fitL_iff.1 hf) hof
   · rw [if_neg hf] at h; cases h
 · rw [if_neg he] at h
   obtain ⟨rfl, rfl⟩ : ([] : List Int) = r1 ∧ e0 = r2 := by simpa using h
   exact Face.left_bad a0_0 A0_1 l0_1.length c0_1 A1 l1.length c1 e0 he fs w hof
end Go.Proofs.Ytmikcfddipldnaa.GAll
namespace Go.Proofs.Ytmikcfddipldnaa.GAll
open Go.RowKit Go.Proofs.YtmikcfddipldnaaW.PrintWords Go.Proofs.YtmikcfddipldnaaW.PrintLast Go.Proofs.YtmikcfddipldnaaW.PrintMore
attribute [local go_sem] max2_int min2_int max_two min_two max_three min_three max_four min_four   -- for this text's walks alone
set_option linter.unusedVariables false
set_option linter.unusedSimpArgs false
def tangramref03_SameLists.l0 : Nat → List (List Int) → List (List Int) → Int → Option (Bool)
 | 0, _, _, _ => none
 | k + 1, x0, x1, x5 => if x5 < (x0.length : Int) then (if 0 ≤ x5 then (if x5 < (x1.length : Int) then ((tangramref03_SameInts.f k (rd_L5 x0 x5) (rd_L5 x1 x5)).bind fun t133 => (if t133 = true then (tangramref03_SameLists.l0 k x0 x1 (wrap64 (x5 + 1))) else (some false))) else (none)) else (none)) else (some true)
def tangramref03_SameLists.f (k : Nat) (l0 : List (List Int)) (l1 : List (List Int)) : Option (Bool) := if (l0.length : Int) = (l1.length : Int) then (tangramref03_SameLists.l0 k l0 l1 0) else (some false)
theorem tangramref03_SameLists.mono_l : ∀ k, (∀ y0 y1 y2, LeO (tangramref03_SameLists.l0 k y0 y1 y2) (tangramref03_SameLists.l0 (k + 1) y0 y1 y2))
 | 0 => fun _ _ _ r h => by simp [tangramref03_SameLists.l0] at h
 | k + 1 => by
   have ih0 := tangramref03_SameLists.mono_l k
   · intro y0 y1 y2
     unfold tangramref03_SameLists.l0
     repeat' first
     | (with_reducible exact ih0 _ _ _)
     | (with_reducible exact tangramref03_SameInts.mono _ _ _)
     | (with_reducible exact LeO.refl _)
     | (with_reducible exact LeO.none _)
     | (with_reducible refine LeO.ite ?_ ?_)
     | (with_reducible refine LeO.bind ?_ (fun _ => ?_))
     | exact ih0 _ _ _
     | exact tangramref03_SameInts.mono _ _ _
     | exact LeO.none _
     | refine LeO.ite ?_ ?_
     | refine LeO.bind ?_ (fun _ => ?_)
theorem tangramref03_SameLists.mono : ∀ a0 a1 k, LeO (tangramref03_SameLists.f k a0 a1) (tangramref03_SameLists.f (k + 1) a0 a1) := by
 intro a0 a1 k
 have ih0 := tangramref03_SameLists.mono_l k
 unfold tangramref03_SameLists.f
 repeat' first
     | (with_reducible exact ih0 _ _ _)
     | (with_reducible exact tangramref03_SameInts.mono _ _ _)
     | (with_reducible exact LeO.refl _)
     | (with_reducible exact LeO.none _)
     | (with_reducible refine LeO.ite ?_ ?_)
     | (with_reducible refine LeO.bind ?_ (fun _ => ?_))
     | exact ih0 _ _ _
     | exact tangramref03_SameInts.mono _ _ _
     | exact LeO.none _
     | refine LeO.ite ?_ ?_
     | refine LeO.bind ?_ (fun _ => ?_)
set_option maxHeartbeats 8000000 in
set_option maxRecDepth 100000 in
theorem tangramref03_SameLists.calls (k : Nat) (A0 : Option Addr) (c0 : Nat) (l0 : List (List Int)) (A1 : Option Addr) (c1 : Nat) (l1 : List (List Int)) (r : Bool) (w : World) (hr0 : Kd.C (Kd.slice 3 (Kd.int .i64)) w A0 l0.length l0) (hc0 : l0.length ≤ c0) (hr1 : Kd.C (Kd.slice 3 (Kd.int .i64)) w A1 l1.length l1) (hc1 : l1.length ≤ c1) (h : tangramref03_SameLists.f k l0 l1 = some r) :
   Calls Try.prog 14 #[.slice A0 l0.length c0, .slice A1 l1.length c1] w fun e w' => e = .returned (.bool r) ∧ Drawn0 w w' := by
 have HR0 := Aside0.mk hr0
 have HC0 := Aside0.mk hc0
 clear hr0 hc0
 have HR1 := Aside0.mk hr1
 have HC1 := Aside0.mk hc1
 clear hr1 hc1
 have H : (if (l0.length : Int) = (l1.length : Int) then (tangramref03_SameLists.l0 k l0 l1 0) else (some false)) = some r := h
 clear h
 by_cases c3 : (l0.length : Int) = (l1.length : Int)
 · rw [if_pos c3] at H
   have c3b0 : ((l0.length : Int) == (l1.length : Int)) = true := beq_iff_eq.mpr c3
   have c3b1 : ((l0.length : Int) != (l1.length : Int)) = false := bne_eq_false_iff_eq.mpr c3
   have c3b2 : (l0.length == l1.length) = true := by first | simpa using c3 | (simp at c3 ⊢; omega)
   clear c3
   have H' := Aside0.mk H
   clear H
   go_enter Try.func14, Try.ntmps14
   go_wp2
   repeat (go_quiet (fail); try go_wp2)
   go_loopg [5] k (fun kq v5 w' => ∃ (x5_1 : Int), v5 = .int .i64 x5_1 ∧ Aside0 (tangramref03_SameLists.l0 kq l0 l1 x5_1 = some r) ∧ Aside0 (kq ≤ k) ∧ Drawn0 w w')
   case atStart => exact ⟨(0), (by first | rfl | (simp; done) | (simp [*]; done)), H', ⟨Nat.le_refl _⟩, by repeat (first | exact Drawn0.refl _ | apply Drawn0.step)⟩
   case round =>
     clear H'
     try clear c1
     try clear p2
     try clear c3
     try clear c3b0
     try clear c3b1
     try clear c3b2
     obtain ⟨x5_1, rfl, HA, HK1, ⟨m1, rfl⟩⟩ := hrel
     cases gk with
     | zero => exact absurd HA.out (by simp [tangramref03_SameLists.l0])
     | succ k1 =>
       have H := HA.out
       clear HA
       simp only [tangramref03_SameLists.l0] at H
       by_cases c4 : x5_1 < (l0.length : Int)
       · rw [if_pos c4] at H
         have c4b0 : decide (x5_1 < (l0.length : Int)) = true := decide_eq_true c4
         clear c4
         by_cases c5 : 0 ≤ x5_1
         · rw [if_pos c5] at H
           have c5b0 : decide (0 ≤ x5_1) = true := decide_eq_true c5
           clear c5
           by_cases c6 : x5_1 < (l1.length : Int)
           · rw [if_pos c6] at H
             have c6b0 : decide (x5_1 < (l1.length : Int)) = true := decide_eq_true c6
             clear c6
             replace H := Option.bind_eq_some_iff.mp H
             obtain ⟨t133, A70, H⟩ := H
             replace H : (if t133 = true then (tangramref03_SameLists.l0 k1 l0 l1 (wrap64 (x5_1 + 1))) else (some false)) = some r := H
             have A7 := Aside0.mk A70
             clear A70
             by_cases c8 : t133 = true
             · subst c8
               have H1 : (tangramref03_SameLists.l0 k1 l0 l1 (wrap64 (x5_1 + 1))) = some r := by rw [if_pos rfl] at H; exact H
               clear H
               have H := H1
               clear H1
               have H' := Aside0.mk H
               clear H
               have p131 : 0 ≤ (x5_1 : Int) := of_decide_eq_true (by first | (with_reducible assumption) | assumption)
               have q131 : x5_1 < (l0.length : Int) := of_decide_eq_true (by first | (with_reducible assumption) | assumption)
               obtain ⟨ad131, A131_0, c131_0, e131, hx131_0, hl131_0, hi131_0⟩ := at_L5 HR0.out x5_1 p131 q131
               cases e131
               have HR131_0 := Aside0.mk hi131_0
               have HC131_0 := Aside0.mk hl131_0
               clear hi131_0 hl131_0
               replace p131 := eq_true p131
               replace q131 := eq_true q131
               have p132 : 0 ≤ (x5_1 : Int) := of_decide_eq_true (by first | (with_reducible assumption) | assumption)
               have q132 : x5_1 < (l1.length : Int) := of_decide_eq_true (by first | (with_reducible assumption) | assumption)
               obtain ⟨ad132, A132_0, c132_0, e132, hx132_0, hl132_0, hi132_0⟩ := at_L5 HR1.out x5_1 p132 q132
               cases e132
               have HR132_0 := Aside0.mk hi132_0
               have HC132_0 := Aside0.mk hl132_0
               clear hi132_0 hl132_0
               replace p132 := eq_true p132
               replace q132 := eq_true q132
               go_wp2_with (first | (go_at_call 17; (with_reducible refine (tangramref03_SameInts.calls k1 _ _ (rd_L5 l0 x5_1) _ _ (rd_L5 l1 x5_1) true _ ?side1 ?side2 ?side3 ?side4 A7.out).mono ?_); (case side1 => repeat (first | exact HR131_0.out | (with_reducible refine Kd.C_alloc ?_ _) | (with_reducible refine Kd.C_drewN ?_ _) | (with_reducible refine Kd.C_drew ?_))); (case side2 => exact HC131_0.out); (case side3 => repeat (first | exact HR132_0.out | (with_reducible refine Kd.C_alloc ?_ _) | (with_reducible refine Kd.C_drewN ?_ _) | (with_reducible refine Kd.C_drew ?_))); (case side4 => exact HC132_0.out); rintro e w' ⟨rfl, ⟨nd, rfl⟩⟩; (try first | exact ⟨rfl, _, World.drewN_drewN _ _ _⟩ | exact ⟨rfl, _, Eq.trans (World.drewN_drewN _ _ _) (congrArg (World.drewN _) (Nat.add_assoc _ _ _))⟩)))
               repeat (go_quiet (first | (go_at_call 17; (with_reducible refine (tangramref03_SameInts.calls k1 _ _ (rd_L5 l0 x5_1) _ _ (rd_L5 l1 x5_1) true _ ?side1 ?side2 ?side3 ?side4 A7.out).mono ?_); (case side1 => repeat (first | exact HR131_0.out | (with_reducible refine Kd.C_alloc ?_ _) | (with_reducible refine Kd.C_drewN ?_ _) | (with_reducible refine Kd.C_drew ?_))); (case side2 => exact HC131_0.out); (case side3 => repeat (first | exact HR132_0.out | (with_reducible refine Kd.C_alloc ?_ _) | (with_reducible refine Kd.C_drewN ?_ _) | (with_reducible refine Kd.C_drew ?_))); (case side4 => exact HC132_0.out); rintro e w' ⟨rfl, ⟨nd, rfl⟩⟩; (try first | exact ⟨rfl, _, World.drewN_drewN _ _ _⟩ | exact ⟨rfl, _, Eq.trans (World.drewN_drewN _ _ _) (congrArg (World.drewN _) (Nat.add_assoc _ _ _))⟩))); try go_wp2_with (first | (go_at_call 17; (with_reducible refine (tangramref03_SameInts.calls k1 _ _ (rd_L5 l0 x5_1) _ _ (rd_L5 l1 x5_1) true _ ?side1 ?side2 ?side3 ?side4 A7.out).mono ?_); (case side1 => repeat (first | exact HR131_0.out | (with_reducible refine Kd.C_alloc ?_ _) | (with_reducible refine Kd.C_drewN ?_ _) | (with_reducible refine Kd.C_drew ?_))); (case side2 => exact HC131_0.out); (case side3 => repeat (first | exact HR132_0.out | (with_reducible refine Kd.C_alloc ?_ _) | (with_reducible refine Kd.C_drewN ?_ _) | (with_reducible refine Kd.C_drew ?_))); (case side4 => exact HC132_0.out); rintro e w' ⟨rfl, ⟨nd, rfl⟩⟩; (try first | exact ⟨rfl, _, World.drewN_drewN _ _ _⟩ | exact ⟨rfl, _, Eq.trans (World.drewN_drewN _ _ _) (congrArg (World.drewN _) (Nat.add_assoc _ _ _))⟩))))
               go_roundg k1
               case measure => have := HK1.out; omega
               case rel => exact ⟨(wrap64 (x5_1 + 1)), (by first | rfl | (simp; done) | (simp [*]; done)), H', ⟨by have := HK1.out; omega⟩, by repeat (first | exact Drawn0.refl _ | apply Drawn0.step)⟩
             · replace c8 := Bool.eq_false_iff.mpr c8
               subst c8
               have H1 : (some false) = some r := by rw [if_neg (show ¬ (false = true) by decide)] at H; exact H
               clear H
               have H := H1
               clear H1
               obtain rfl := Option.some.inj H
               have p131 : 0 ≤ (x5_1 : Int) := of_decide_eq_true (by first | (with_reducible assumption) | assumption)
               have q131 : x5_1 < (l0.length : Int) := of_decide_eq_true (by first | (with_reducible assumption) | assumption)
               obtain ⟨ad131, A131_0, c131_0, e131, hx131_0, hl131_0, hi131_0⟩ := at_L5 HR0.out x5_1 p131 q131
               cases e131
               have HR131_0 := Aside0.mk hi131_0
               have HC131_0 := Aside0.mk hl131_0
               clear hi131_0 hl131_0
               replace p131 := eq_true p131
               replace q131 := eq_true q131
               have p132 : 0 ≤ (x5_1 : Int) := of_decide_eq_true (by first | (with_reducible assumption) | assumption)
               have q132 : x5_1 < (l1.length : Int) := of_decide_eq_true (by first | (with_reducible assumption) | assumption)
               obtain ⟨ad132, A132_0, c132_0, e132, hx132_0, hl132_0, hi132_0⟩ := at_L5 HR1.out x5_1 p132 q132
               cases e132
               have HR132_0 := Aside0.mk hi132_0
               have HC132_0 := Aside0.mk hl132_0
               clear hi132_0 hl132_0
               replace p132 := eq_true p132
               replace q132 := eq_true q132
               go_wp2_with (first | (go_at_call 17; (with_reducible refine (tangramref03_SameInts.calls k1 _ _ (rd_L5 l0 x5_1) _ _ (rd_L5 l1 x5_1) false _ ?side1 ?side2 ?side3 ?side4 A7.out).mono ?_); (case side1 => repeat (first | exact HR131_0.out | (with_reducible refine Kd.C_alloc ?_ _) | (with_reducible refine Kd.C_drewN ?_ _) | (with_reducible refine Kd.C_drew ?_))); (case side2 => exact HC131_0.out); (case side3 => repeat (first | exact HR132_0.out | (with_reducible refine Kd.C_alloc ?_ _) | (with_reducible refine Kd.C_drewN ?_ _) | (with_reducible refine Kd.C_drew ?_))); (case side4 => exact HC132_0.out); rintro e w' ⟨rfl, ⟨nd, rfl⟩⟩; (try first | exact ⟨rfl, _, World.drewN_drewN _ _ _⟩ | exact ⟨rfl, _, Eq.trans (World.drewN_drewN _ _ _) (congrArg (World.drewN _) (Nat.add_assoc _ _ _))⟩)))
               repeat (go_quiet (first | (go_at_call 17; (with_reducible refine (tangramref03_SameInts.calls k1 _ _ (rd_L5 l0 x5_1) _ _ (rd_L5 l1 x5_1) false _ ?side1 ?side2 ?side3 ?side4 A7.out).mono ?_); (case side1 => repeat (first | exact HR131_0.out | (with_reducible refine Kd.C_alloc ?_ _) | (with_reducible refine Kd.C_drewN ?_ _) | (with_reducible refine Kd.C_drew ?_))); (case side2 => exact HC131_0.out); (case side3 => repeat (first | exact HR132_0.out | (with_reducible refine Kd.C_alloc ?_ _) | (with_reducible refine Kd.C_drewN ?_ _) | (with_reducible refine Kd.C_drew ?_))); (case side4 => exact HC132_0.out); rintro e w' ⟨rfl, ⟨nd, rfl⟩⟩; (try first | exact ⟨rfl, _, World.drewN_drewN _ _ _⟩ | exact ⟨rfl, _, Eq.trans (World.drewN_drewN _ _ _) (congrArg (World.drewN _) (Nat.add_assoc _ _ _))⟩))); try go_wp2_with (first | (go_at_call 17; (with_reducible refine (tangramref03_SameInts.calls k1 _ _ (rd_L5 l0 x5_1) _ _ (rd_L5 l1 x5_1) false _ ?side1 ?side2 ?side3 ?side4 A7.out).mono ?_); (case side1 => repeat (first | exact HR131_0.out | (with_reducible refine Kd.C_alloc ?_ _) | (with_reducible refine Kd.C_drewN ?_ _) | (with_reducible refine Kd.C_drew ?_))); (case side2 => exact HC131_0.out); (case side3 => repeat (first | exact HR132_0.out | (with_reducible refine Kd.C_alloc ?_ _) | (with_reducible refine Kd.C_drewN ?_ _) | (with_reducible refine Kd.C_drew ?_))); (case side4 => exact HC132_0.out); rintro e w' ⟨rfl, ⟨nd, rfl⟩⟩; (try first | exact ⟨rfl, _, World.drewN_drewN _ _ _⟩ | exact ⟨rfl, _, Eq.trans (World.drewN_drewN _ _ _) (congrArg (World.drewN _) (Nat.add_assoc _ _ _))⟩))))
               go_ret
               exact ⟨by first | rfl | (simp; done) | (simp [*]; done), by repeat (first | exact Drawn0.refl _ | apply Drawn0.step)⟩
           · rw [if_neg c6] at H
             exact absurd H (by simp)
         · rw [if_neg c5] at H
           exact absurd H (by simp)
       · rw [if_neg c4] at H
         have c4b0 : decide (x5_1 < (l0.length : Int)) = false := decide_eq_false c4
         clear c4
         obtain rfl := Option.some.inj H
         go_wp2
         repeat (go_quiet (fail); try go_wp2)
         go_ret
         exact ⟨by first | rfl | (simp; done) | (simp [*]; done), by repeat (first | exact Drawn0.refl _ | apply Drawn0.step)⟩
 · rw [if_neg c3] at H
   have c3b0 : ((l0.length : Int) == (l1.length : Int)) = false := beq_eq_false_iff_ne.mpr c3
   have c3b1 : ((l0.length : Int) != (l1.length : Int)) = true := bne_iff_ne.mpr c3
   have c3b2 : (l0.length == l1.length) = false := by first | simpa using c3 | (simp at c3 ⊢; omega)
   obtain rfl := Option.some.inj H
   go_enter Try.func14, Try.ntmps14
   go_wp2
   repeat (go_quiet (fail); try go_wp2)
   go_ret
   exact ⟨by first | rfl | (simp; done) | (simp [*]; done), by repeat (first | exact Drawn0.refl _ | apply Drawn0.step)⟩
end Go.Proofs.Ytmikcfddipldnaa.GAll
namespace Go.Proofs.Ytmikcfddipldnaa.Rot
open Go.RowKit Go.Proofs.YtmikcfddipldnaaW.PrintWords Go.Proofs.YtmikcfddipldnaaW.PrintLast Go.Proofs.YtmikcfddipldnaaW.PrintMore Go.Proofs.Ytmikcfddipldnaa.GAll Go.Proofs.Ytmikcfddipldnaa.Mem Go.Proofs.Ytmikcfddipldnaa.Ring Go.Proofs.Ytmikcfddipldnaa.Face
set_option linter.unusedVariables false
set_option linter.unusedSimpArgs false
theorem wad {i : Nat} (h : i ≤ 900000000) : wrap64 ((i : Int) + 1) = ((i + 1 : Nat) : Int) := by rw [IntWalk.wrap64_in _ (by omega)]; omega
section
variable {n : Nat} {l : List Ed} {r : List (List Int)}
theorem goFace_go {st : List Int} {m : Nat} {T : List Bool} {fc : List Int} {k : Int} (h : gb T k.toNat = false) : goFace st (m + 1) T fc k = goFace st m (T.set k.toNat true) (fc ++ [k]) (gi st k.toNat) := by
 conv => lhs; unfold goFace
 rw [if_neg (by rw [h]; simp)]
theorem goFace_stop {st : List Int} {m : Nat} {T : List Bool} {fc : List Int} {k : Int} (h : gb T k.toNat = true) : goFace st m T fc k = (T, fc) := by
 cases m with
 | zero => rfl
 | succ m =>
   conv => lhs; unfold goFace
   rw [if_pos h]
theorem gi_ge {st : List Int} {m : Nat} : ∀ (T : List Bool) (fc : List Int) (k : Int), fc.length ≤ (goFace st m T fc k).2.length := by
 induction m with
 | zero => intro T fc k; exact Nat.le_refl _
 | succ m ih =>
   intro T fc k
   unfold goFace
   split
   · exact Nat.le_refl _
   · have := ih (T.set k.toNat true) (fc ++ [k]) (gi st k.toNat)
     simp at this; omega
theorem walk_ev (hm : IsMap n l r) {out : List (List Int)} {h : Nat} {res : List (List Int) × Int} (ho : out.length ≤ 8388608) (hh : h < 2 * l.length) :
   ∀ (m : Nat) (T : List Bool) (fc : List Int) (k : Nat), T.length = 2 * l.length → left T ≤ m → k < 2 * l.length → fc.length + m ≤ 2 * l.length →
     Ev (fun q => faces_Of.l0 q (nxOf l r) (goFace (stOf l r) m T fc (k : Int)).1 (if 0 < (goFace (stOf l r) m T fc (k : Int)).2.length then out ++ [(goFace (stOf l r) m T fc (k : Int)).2] else out) ((nxOf l r).length : Int) ((h + 1 : Nat) : Int)) res →
     Ev (fun q => faces_Of.l1 q (nxOf l r) T out fc (k : Int) ((nxOf l r).length : Int) (h : Int)) res := by
 have hll := hm.good.2.2.1
 have hlen := hm.len
 have key : ∀ (m : Nat) (T : List Bool) (fc : List Int) (k : Nat), T.length = 2 * l.length → k < 2 * l.length → gb T k = true → Ev (fun q => faces_Of.l0 q (nxOf l r) (goFace (stOf l r) m T fc (k : Int)).1 (if 0 < (goFace (stOf l r) m T fc (k : Int)).2.length then out ++ [(goFace (stOf l r) m T fc (k : Int)).2] else out) ((nxOf l r).length : Int) ((h + 1 : Nat) : Int)) res →
     Ev (fun q => faces_Of.l1 q (nxOf l r) T out fc (k : Int) ((nxOf l r).length : Int) (h : Int)) res := by
   intro m T fc k hT hk hg H
   rw [goFace_stop (by rw [Int.toNat_natCast]; exact hg)] at H
   refine Ev.step (fun q => ?_) H
   simp only [faces_Of.l1]
   change (if 0 ≤ (k : Int) then (if (k : Int) < (T.length : Int) then (if gb T ((k : Int).toNat) = true then _ else _) else _) else _) = _
   rw [if_pos (by omega), if_pos (by omega), Int.toNat_natCast, if_pos hg, wad (by omega)]
   by_cases c : 0 < fc.length
   · rw [if_pos (by omega), if_pos (by omega), if_pos c]
   · rw [if_neg (by omega), if_neg c]
 intro m
 induction m with
 | zero =>
   intro T fc k hT hl hk hf H
   exact key 0 T fc k hT hk (left_zero (by omega) (by omega)) H
 | succ m ih =>
   intro T fc k hT hl hk hf H
   cases hg : gb T k with
   | true => exact key (m + 1) T fc k hT hk hg H
   | false =>
     rw [goFace_go (by rw [Int.toNat_natCast]; exact hg), Int.toNat_natCast, gi_stOf hk, hm.nxf_eq (twn_lt hk)] at H
     have hls := left_set T k (by omega) hg
     have hin := hm.steps.inn k (by rw [stOf_length]; exact hk)
     rw [stOf_length, stf_eq hk] at hin
     refine Ev.step (fun q => ?_) (ih (T.set k true) (fc ++ [(k : Int)]) (nxf l r (twn k)) (by rw [List.length_set]; exact hT) (by omega) hin (by simp; omega) H)
     have ht := tw_twn (h := k) (by omega)
     have htl := twn_lt hk
     simp only [faces_Of.l1]
     change (if 0 ≤ (k : Int) then (if (k : Int) < (T.length : Int) then (if gb T ((k : Int).toNat) = true then _ else _) else _) else _) = _
     rw [if_pos (by omega), if_pos (by omega), Int.toNat_natCast, if_neg (by rw [hg]; simp), if_pos (by omega), ht, if_pos (by omega), if_pos (by omega), gi_rd, hm.nxf_eq htl]
theorem of_loop (hm : IsMap n l r) (d : Nat) : ∀ h : Nat, h + d = 2 * l.length → Ev (fun q => faces_Of.l0 q (nxOf l r) (facesTo (stOf l r) (2 * l.length) h).1 (facesTo (stOf l r) (2 * l.length) h).2 ((nxOf l r).length : Int) (h : Int)) (facesL (stOf l r), 0) := by
 have hll := hm.good.2.2.1
 have hlen := hm.len
 induction d with
 | zero =>
   intro h hh
   obtain rfl : h = 2 * l.length := by omega
   refine Ev.step (f := fun _ => some (facesL (stOf l r), 0)) (fun q => ?_) (Ev.now _)
   simp only [faces_Of.l0]
   rw [if_neg (by omega)]
   unfold facesL
   rw [stOf_length]
 | succ d ih =>
   intro h hh
   have H := ih (h + 1) (by omega)
   obtain ⟨f1, f2⟩ := facesTo_len (stOf l r) (2 * l.length) h
   refine Ev.step (fun q => ?_) (walk_ev hm (out := (facesTo (stOf l r) (2 * l.length) h).2) (h := h) (res := (facesL (stOf l r), 0)) (by omega) (by omega) (2 * l.length) (facesTo (stOf l r) (2 * l.length) h).1 [] h f1 (by have := left_le (facesTo (stOf l r) (2 * l.length) h).1; omega) (by omega) (by simp) ?_)
   · simp only [faces_Of.l0]
     rw [if_pos (by omega)]
   · unfold facesTo at H
     cases hg : gb (facesTo (stOf l r) (2 * l.length) h).1 h with
     | true =>
       rw [if_pos hg] at H
       rw [goFace_stop (by rw [Int.toNat_natCast]; exact hg)]
       simpa using H
     | false =>
       rw [if_neg (by rw [hg]; simp)] at H
       obtain ⟨m, hmm⟩ : ∃ m, 2 * l.length = m + 1 := ⟨2 * l.length - 1, by omega⟩
       have hp : 0 < (goFace (stOf l r) (2 * l.length) (facesTo (stOf l r) (2 * l.length) h).1 [] (h : Int)).2.length := by
         generalize (facesTo (stOf l r) (2 * l.length) h).1 = T at hg
         rw [hmm, goFace_go (by rw [Int.toNat_natCast]; exact hg)]
         have := gi_ge (st := stOf l r) (m := m) (T.set ((h : Int).toNat) true) ([] ++ [(h : Int)]) (gi (stOf l r) ((h : Int).toNat))
         simp at this ⊢; omega
       rw [if_pos hp]
       exact H
theorem next_bad {v e : Int} {a : Int} (he : e ≠ 0) (h : Ev (fun k => rot_Check.f k a l r) (v, e)) : Ev (fun k => rot_Next.f k a l r) ([], e) := by
 unfold rot_Next.f
 exact Ev.bind h (Ev.congr (fun k => if_neg he) (Ev.now _))
theorem of_bad {v e : Int} {a : Int} (he : e ≠ 0) (h : Ev (fun k => rot_Check.f k a l r) (v, e)) : Ev (fun k => faces_Of.f k a l r) ([], e) := by
 unfold faces_Of.f
 exact Ev.bind (next_bad he h) (Ev.congr (fun k => if_neg he) (Ev.now _))
theorem of_ok (hm : IsMap n l r) (h : Ev (fun k => rot_Check.f k (n : Int) l r) (0, 0)) : Ev (fun k => faces_Of.f k (n : Int) l r) (facesL (stOf l r), 0) := by
 have hlen := hm.len
 have hll := hm.good.2.2.1
 have H := of_loop hm (2 * l.length) 0 (by omega)
 unfold faces_Of.f
 refine Ev.bind (next_ev hm h) (Ev.congr (fun k => ?_) H)
 simp only
 rw [if_pos trivial, if_pos (by omega), if_pos (by omega)]
 show faces_Of.l0 k _ (List.replicate ((nxOf l r).length : Int).toNat false) [] _ 0 = _
 rw [Int.toNat_natCast, hlen]
 rfl
theorem faces_mem (hm : IsMap n l r) {F : List (List Nat)} (hF : Faces (stf l r) (2 * l.length) F) {L : List Nat} (hL : L ∈ F) : ∀ x ∈ L, x < 2 * l.length := fun x hx => by
 have := hF.perm.mem_iff.1 (List.mem_flatten.2 ⟨L, hL, hx⟩)
 rwa [List.mem_range] at this
theorem len_le_flat : ∀ (F : List (List Nat)), (∀ L ∈ F, L ≠ []) → F.length ≤ F.flatten.length
 | [], _ => Nat.le_refl _
 | L :: F, h => by
   have ih := len_le_flat F (fun M hM => h M (List.mem_cons_of_mem _ hM))
   have := List.length_pos_iff.2 (h L (List.mem_cons_self ..))
   rw [List.flatten_cons, List.length_append, List.length_cons]; omega
theorem one_le_flat {F : List (List Nat)} {L : List Nat} (h : L ∈ F) : L.length ≤ F.flatten.length := by
 obtain ⟨s, t, rfl⟩ := List.append_of_mem h
 simp; omega
theorem IsMap.small (hm : IsMap n l r) {F : List (List Nat)} (hF : Faces (stf l r) (2 * l.length) F) : F.length ≤ 2 * l.length ∧ ∀ L ∈ F, L.length ≤ 2 * l.length := by
 have h1 := hF.perm.length_eq
 rw [List.length_range] at h1
 exact ⟨by rw [← h1]; exact len_le_flat F (fun L hL => (hF.dec.ring L hL).1), fun L hL => by rw [← h1]; exact one_le_flat hL⟩
theorem IsMap.fitL (hm : IsMap n l r) : Face.fitL (facesL (stOf l r)) l.length = true := by
 obtain ⟨F, e, hF⟩ := hm.faces
 obtain ⟨s1, s2⟩ := hm.small hF
 have hll := hm.good.2.2.1
 rw [e]
 unfold Face.fitL
 simp only [Bool.and_eq_true, decide_eq_true_eq, List.all_eq_true, List.length_map]
 refine ⟨hll, by omega, fun row hrow => ?_⟩
 obtain ⟨L, hL, rfl⟩ := List.mem_map.1 hrow
 have := s2 L hL
 refine ⟨by unfold zN; rw [List.length_map]; omega, fun x hx => ?_⟩
 obtain ⟨y, hy, rfl⟩ := List.mem_map.1 hx
 have := faces_mem hm hF hL y hy
 omega
theorem left_ok (hm : IsMap n l r) (h : Ev (fun k => rot_Check.f k (n : Int) l r) (0, 0)) : Ev (fun k => faces_Left.f k (n : Int) l r) (leftL (facesL (stOf l r)) (2 * l.length), 0) := by
 unfold faces_Left.f
 exact Ev.bind (of_ok hm h) (Ev.congr (fun k => if_pos rfl) (Ev.congr (fun k => if_pos hm.fitL) (Ev.now _)))
theorem left_bad {v e : Int} {a : Int} (he : e ≠ 0) (h : Ev (fun k => rot_Check.f k a l r) (v, e)) : Ev (fun k => faces_Left.f k a l r) ([], e) := by
 unfold faces_Left.f
 exact Ev.bind (of_bad he h) (Ev.congr (fun k => if_neg he) (Ev.now _))
end
theorem lists_same (xs : List (List Int)) (hl : xs.length ≤ 900000000) (hi : ∀ x ∈ xs, x.length ≤ 900000000) : Ev (fun k => tangramref03_SameLists.f k xs xs) true := by
 have loop : ∀ (d i : Nat), i + d = xs.length → Ev (fun k => tangramref03_SameLists.l0 k xs xs (i : Int)) true := by
   intro d
   induction d with
   | zero =>
     intro i hi
     refine Ev.step (f := fun _ => some true) (fun k => ?_) (Ev.now _)
     simp only [tangramref03_SameLists.l0]
     rw [if_neg (by omega)]
   | succ d ih =>
     intro i hd
     refine Ev.step (f := fun k => (tangramref03_SameInts.f k (xs.getD i []) (xs.getD i [])).bind fun t => if t = true then tangramref03_SameLists.l0 k xs xs ((i + 1 : Nat) : Int) else some false) (fun k => ?_) (Ev.bind (ints_same (Nat.le_trans (hi _ ?_) (by decide))) ?_)
     · simp only [tangramref03_SameLists.l0]
       rw [if_pos (by omega), if_pos (by omega), if_pos (by omega), wad (by omega)]
       rfl
     · rw [List.getD_eq_getElem?_getD, List.getElem?_eq_getElem (by omega)]
       exact List.getElem_mem _
     · simp only [if_true]
       exact ih (i + 1) (by omega)
 refine Ev.congr (fun k => ?_) (loop xs.length 0 (by omega))
 simp only [tangramref03_SameLists.f]
 rw [if_pos trivial]
 rfl
theorem IsMap.lists {n : Nat} {l : List Ed} {r : List (List Int)} (hm : IsMap n l r) : (facesL (stOf l r)).length ≤ 8388608 ∧ ∀ x ∈ facesL (stOf l r), x.length ≤ 8388608 := by
 obtain ⟨F, e, hF⟩ := hm.faces
 obtain ⟨s1, s2⟩ := hm.small hF
 have hll := hm.good.2.2.1
 rw [e]
 refine ⟨by rw [List.length_map]; omega, fun x hx => ?_⟩
 obtain ⟨L, hL, rfl⟩ := List.mem_map.1 hx
 have := s2 L hL
 unfold zN
 rw [List.length_map]; omega
end Go.Proofs.Ytmikcfddipldnaa.Rot
namespace Go.Proofs.Ytmikcfddipldnaa.Sets
open Go.RowKit Go.Proofs.YtmikcfddipldnaaW.PrintWords Go.Proofs.YtmikcfddipldnaaW.PrintLast Go.Proofs.YtmikcfddipldnaaW.PrintMore
set_option linter.unusedVariables false
set_option linter.unusedSimpArgs false
def ints (l : List Nat) : List Int := l.map fun (x : Nat) => (x : Int)
theorem iv_encs (l : List Nat) : iv l = encs (Value.int .i64) (ints l) := by simp [iv, encs, ints, Function.comp_def]
theorem GRows.rows {w : World} {B bo base : Nat} {vs : List Value} {gs : List (List Nat)} {ok : Nat → Prop} (h : GRows w B bo vs gs) (hb : base ≤ bo) (hl : gs.length ≤ 9223372036854775807) (hok : ∀ k, base ≤ k → ok k) :
   Kd.R (Kd.slice 3 (Kd.int .i64)) 36 w base ok (.slice (some ⟨bo, 0, none⟩) gs.length gs.length) (gs.map ints) := by
 have hlt := h.lt
 have hsz : (Kd.slice 3 (Kd.int .i64)).sz = 1 := rfl
 refine ⟨fun k hk => hok k (by have : bo = k := by simpa [Value.ownBlock] using hk
                               omega), vs, ⟨by simp [h.len, hsz], .inr ⟨bo, gs.length, vs.toArray, by simp, hb, h.out, by simp, by unfold maxLen; simpa using hl, by simp [h.len, hsz], ?_⟩⟩, by simp [h.len, hsz], fun j p hj => ?_⟩
 · simp [List.take_of_length_le, h.len, hsz]
 · rw [List.getElem?_map] at hj
   obtain ⟨g, hg, rfl⟩ := Option.map_eq_some_iff.1 hj
   have hj2 : j < gs.length := (List.getElem?_eq_some_iff.1 hg).1
   have e1 : gl gs j = g := by unfold gl; rw [List.getD_eq_getElem?_getD, hg]; rfl
   have e2 : (vs.drop (j * 1)).take 1 = [va vs j] := by
     rw [Nat.mul_one, List.drop_eq_getElem_cons (by rw [h.len]; exact hj2), List.take_succ_cons, List.take_zero]
     simp [va, List.getD_eq_getElem?_getD, h.len, hj2]
   refine ⟨va vs j, e2, Kd.R_of_own ?_ (fun k hk => ?_)⟩
   · have := own_weaken (h.own j hj2) (show base ≤ B by omega)
     rw [iv_encs, e1] at this
     rw [show (ints g).length = g.length by simp [ints]]
     exact this
   · have := own_lt (h.own j hj2) hk
     refine ⟨hok k (by omega), fun e => ?_⟩
     have : k = bo := by simpa [Value.ownBlock] using e
     omega
def Sub (n : Nat) (es : List (Int × Int)) (m : List Nat) : Prop := ∃ E, Part n E m ∧ ∀ a b, E a b → Conn (EP n es) a b
theorem Sub.start (n : Nat) (es : List (Int × Int)) : Sub n es (List.range n) := ⟨_, Part.range n, fun _ _ h => h.elim⟩
theorem pe_mem {es : List (Int × Int)} {k : Nat} (h : k < es.length) : pe es k ∈ es := by
 unfold pe; rw [List.getD_eq_getElem?_getD, List.getElem?_eq_getElem h]; exact List.getElem_mem h
def Cov (n : Nat) (es : List (Int × Int)) (i : Nat) (m : List Nat) : Prop := ∃ E, Part n E m ∧ (∀ a b, E a b → Conn (EP n es) a b) ∧ ∀ j, i ≤ j → j < es.length → ∀ a b : Nat, a < n → b < n → pe es j = ((a : Int), (b : Int)) → Conn E a b
theorem mem_pe {es : List (Int × Int)} {x : Int × Int} (h : x ∈ es) : ∃ j, j < es.length ∧ pe es j = x := by
 obtain ⟨j, hj, rfl⟩ := List.mem_iff_getElem.1 h
 exact ⟨j, hj, by unfold pe; rw [List.getD_eq_getElem?_getD, List.getElem?_eq_getElem hj]; rfl⟩
theorem Cov.all {n : Nat} {es : List (Int × Int)} {m : List Nat} (h : Cov n es 0 m) : m = joinAll (List.range n) es := by
 obtain ⟨E, h1, h2, h3⟩ := h
 refine h1.unique (joinAll_part n es) h2 ?_
 rintro a b ⟨ha, hb, hm⟩
 obtain ⟨j, hj, hp⟩ := mem_pe hm
 exact h3 j (by omega) hj a b ha hb hp
def yesTo (m : List Nat) (es : List (Int × Int)) : Nat → Nat
 | 0 => 0
 | k + 1 => yesTo m es k + if (joinOf (joinAll m (es.take k)) (pe es k).1 (pe es k).2).2 = true then 1 else 0
theorem sets_yes (n : Nat) (es : List (Int × Int)) : ∀ k, k ≤ es.length → sets (joinAll (List.range n) (es.take k)) + yesTo (List.range n) es k = n := by
 intro k
 induction k with
 | zero => intro _; simp [joinAll, yesTo, sets_range]
 | succ k ih =>
   intro hk
   have h1 := ih (by omega)
   have h2 := sets_join (joinAll_part n (es.take k)) (pe es k).1 (pe es k).2
   rw [joinAll_take _ _ (by omega)]
   unfold yesTo
   omega
theorem numTo_sets {n : Nat} {E : Nat → Nat → Prop} {m : List Nat} (h : Part n E m) : ∀ k, k ≤ n → (numTo m k).2 = (List.range k).countP fun i => gt m i == i := by
 intro k
 induction k with
 | zero => intro _; rfl
 | succ k ih =>
   intro hk
   rw [List.range_succ, List.countP_append]
   have h1 := ih (by omega)
   have h2 := h.le k (by omega)
   unfold numTo
   by_cases c : gt m k < k
   · rw [if_pos c]
     simp [h1, show gt m k ≠ k by omega]
   · rw [if_neg c]
     simp [h1, show gt m k = k by omega]
theorem numTo_all {n : Nat} {E : Nat → Nat → Prop} {m : List Nat} (h : Part n E m) : (numTo m m.length).2 = sets m := by
 rw [h.len, numTo_sets h n (Nat.le_refl _)]
 unfold sets
 rw [h.len]
structure Two (w0 w : World) (p bP bS q bQ bT : Nat) (ms mt : List Nat) : Prop where
 s : At w p bP bS ms
 t : At w q bQ bT mt
 lo : w0.heap.size ≤ p ∧ w0.heap.size ≤ bP ∧ w0.heap.size ≤ bS ∧ w0.heap.size ≤ q ∧ w0.heap.size ≤ bQ ∧ w0.heap.size ≤ bT
 ap : p < q ∧ p < bQ ∧ p < bT ∧ bP < q ∧ bP < bQ ∧ bP < bT ∧ bS < q ∧ bS < bQ ∧ bS < bT
 old : Below w0.heap.size w0 w
def Own2 (p bP bS q bQ bT : Nat) (k : Nat) : Prop := Own p bP bS k ∨ Own q bQ bT k
theorem At.frame {w w' : World} {p bP bS : Nat} {m : List Nat} {S : Nat → Prop} (h : At w p bP bS m) (f : Frame S w w') (hs : ∀ k, Own p bP bS k → ¬ S k) : At w' p bP bS m := by
 obtain ⟨P, S', h⟩ := h
 exact ⟨P, S', f.blk h.obj (hs _ (.inl rfl)), f.blk h.par (hs _ (.inr (.inl rfl))), f.blk h.siz (hs _ (.inr (.inr rfl))), h.ne1, h.ne2, h.ne3, h.small, h.rep, h.sized⟩
theorem At.hi {w : World} {p bP bS : Nat} {m : List Nat} (h : At w p bP bS m) : p < w.heap.size ∧ bP < w.heap.size ∧ bS < w.heap.size := by
 obtain ⟨P, S', h⟩ := h
 exact ⟨blk_lt h.obj, blk_lt h.par, blk_lt h.siz⟩
section
variable {w0 w w' : World} {p bP bS q bQ bT : Nat} {ms mt : List Nat}
theorem Two.alloc (h : Two w0 w p bP bS q bQ bT ms mt) (o : Obj) : Two w0 (w.alloc o) p bP bS q bQ bT ms mt := by
 have f : Frame (fun _ => False) w (w.alloc o) := (Frame.refl _ w).alloc o
 exact ⟨h.s.frame f (fun _ _ e => e), h.t.frame f (fun _ _ e => e), h.lo, h.ap, h.old.alloc (by exact h.old.size) o⟩
theorem Two.drew (h : Two w0 w p bP bS q bQ bT ms mt) : Two w0 w.drew p bP bS q bQ bT ms mt := by
 have f : Frame (fun _ => False) w w.drew := (Frame.refl _ w).drew
 exact ⟨h.s.frame f (fun _ _ e => e), h.t.frame f (fun _ _ e => e), h.lo, h.ap, h.old.trans (f.below h.old.size (fun k hk => hk.elim))⟩
theorem Two.below (h : Two w0 w p bP bS q bQ bT ms mt) (hb : Below w.heap.size w w') : Two w0 w' p bP bS q bQ bT ms mt := by
 have h1 := h.s.hi
 have h2 := h.t.hi
 have f : Frame (fun k => w.heap.size ≤ k) w w' := ⟨hb.os, hb.tape, hb.output, hb.size, fun i hi _ => hb.block i hi⟩
 exact ⟨h.s.frame f (fun k hk e => by unfold Own at hk; omega), h.t.frame f (fun k hk e => by unfold Own at hk; omega), h.lo, h.ap, h.old.trans (hb.mono h.old.size)⟩
end
end Go.Proofs.Ytmikcfddipldnaa.Sets
namespace Go.Proofs.Ytmikcfddipldnaa.PureR
open Go.RowKit Go.Proofs.YtmikcfddipldnaaW.PrintWords Go.Proofs.YtmikcfddipldnaaW.PrintLast Go.Proofs.YtmikcfddipldnaaW.PrintMore Go.Proofs.Ytmikcfddipldnaa.Sets
set_option linter.unusedVariables false
set_option linter.unusedSimpArgs false
theorem wadd {i n : Nat} (h : i < n) (hn : n ≤ 9000000) : wrap64 ((i : Int) + 1) = ((i + 1 : Nat) : Int) := by rw [IntWalk.wrap64_in _ (by omega)]; omega
def roots (m : List Nat) (i : Nat) : Nat := (List.range i).countP fun j => gt m j == j
theorem roots_succ (m : List Nat) (i : Nat) : roots m (i + 1) = roots m i + if gt m i = i then 1 else 0 := by
 unfold roots
 rw [List.range_succ, List.countP_append]
 by_cases h : gt m i = i <;> simp [h]
section
variable {n : Nat} {E : Nat → Nat → Prop} {m : List Nat}
theorem num_at (h : Part n E m) : ∀ k, k ≤ n → ∀ a, a < k → gt (numTo m k).1 a = roots m (gt m a) := by
 intro k
 induction k with
 | zero => intro _ a ha; omega
 | succ k ih =>
   intro hk a ha
   have hl := numTo_length m k
   have hle := h.le k (by omega)
   have hcn := numTo_sets h k (by omega)
   unfold numTo
   by_cases c : gt m k < k
   · rw [if_pos c]
     rcases Nat.lt_or_ge a k with h1 | h1
     · rw [gt_snoc_lt (by omega), ih (by omega) a h1]
     · obtain rfl : a = k := by omega
       rw [gt_snoc_eq (by omega), ih (by omega) _ c, h.idem (by omega)]
   · rw [if_neg c]
     rcases Nat.lt_or_ge a k with h1 | h1
     · rw [gt_snoc_lt (by omega), ih (by omega) a h1]
     · obtain rfl : a = k := by omega
       rw [gt_snoc_eq (by omega), hcn, show gt m a = a by omega]
       rfl
theorem roots_mono (m : List Nat) {a b : Nat} (h : a ≤ b) : roots m a ≤ roots m b := by
 induction b with
 | zero => obtain rfl : a = 0 := by omega
           exact Nat.le_refl _
 | succ b ih =>
   rcases Nat.lt_or_ge a (b + 1) with h1 | h1
   · have := ih (by omega)
     rw [roots_succ]; omega
   · obtain rfl : a = b + 1 := by omega
     exact Nat.le_refl _
theorem roots_inj (m : List Nat) {a b : Nat} (ha : gt m a = a) (hb : gt m b = b) (h : roots m a = roots m b) : a = b := by
 rcases Nat.lt_trichotomy a b with c | c | c
 · have h1 := roots_mono m (show a + 1 ≤ b by omega)
   rw [roots_succ, if_pos ha] at h1; omega
 · exact c
 · have h1 := roots_mono m (show b + 1 ≤ a by omega)
   rw [roots_succ, if_pos hb] at h1; omega
theorem roots_lt {i : Nat} (hi : i < n) (hr : gt m i = i) : roots m i < roots m n := by
 have h1 := roots_mono m (show i + 1 ≤ n by omega)
 rw [roots_succ, if_pos hr] at h1; omega
end
end Go.Proofs.Ytmikcfddipldnaa.PureR
namespace Go.Proofs.Ytmikcfddipldnaa.Rot
open Go.RowKit Go.Proofs.YtmikcfddipldnaaW.PrintWords Go.Proofs.YtmikcfddipldnaaW.PrintLast Go.Proofs.YtmikcfddipldnaaW.PrintMore Go.Proofs.Ytmikcfddipldnaa.GAll Go.Proofs.Ytmikcfddipldnaa.Mem Go.Proofs.Ytmikcfddipldnaa.Ring Go.Proofs.Ytmikcfddipldnaa.Face
set_option linter.unusedVariables false
set_option linter.unusedSimpArgs false
def parT (n : Nat) (l : List Ed) (t : Nat) : List Nat := Sets.joinAll (List.range n) ((ends l).take t)
section
variable {n : Nat} {l : List Ed} {r : List (List Int)}
theorem parT_part (n : Nat) (l : List Ed) (t : Nat) : Sets.Part n (Sets.EP n ((ends l).take t)) (parT n l t) := Sets.joinAll_part n _
theorem ends_in (hg : PureV.Good (n : Int) l) {t : Nat} (ht : t < l.length) : ∃ u v : Nat, (Sets.pe (ends l) t) = ((u : Int), (v : Int)) ∧ u < n ∧ v < n ∧ u ≠ v ∧ gi (frs l) (2 * t) = (u : Int) ∧ gi (frs l) (2 * t + 1) = (v : Int) := by
 obtain ⟨⟨a, b, c⟩, _⟩ := hg.2.2.2 t ht
 have e : Sets.pe (ends l) t = ((PureV.rdE l (t : Nat)).f0, (PureV.rdE l (t : Nat)).f1) := pe_ends ht
 refine ⟨(PureV.rdE l (t : Nat)).f0.toNat, (PureV.rdE l (t : Nat)).f1.toNat, ?_, by omega, by omega, by omega, ?_, ?_⟩
 · rw [e, Int.toNat_of_nonneg (by omega), Int.toNat_of_nonneg (by omega)]
 · rw [frs_even ht, Int.toNat_of_nonneg (by omega)]
 · rw [frs_odd ht, Int.toNat_of_nonneg (by omega)]
theorem parT_succ (n : Nat) (l : List Ed) {t : Nat} (ht : t < l.length) : parT n l (t + 1) = (Sets.joinOf (parT n l t) (Sets.pe (ends l) t).1 (Sets.pe (ends l) t).2).1 := Sets.joinAll_take _ _ (by rw [ends_length]; exact ht)
theorem bound (hm : IsMap n l r) : ∀ t, t ≤ l.length → ∃ L', Dec (upTo (nxf l r) t) L' ∧ L'.flatten.Perm (full (rowsN r)).flatten ∧ Within (fun h => Sets.gt (parT n l t) (gi (frs l) h).toNat) L' ∧ L'.length + 2 * n ≤ (full (rowsN r)).length + t + 2 * Sets.sets (parT n l t)
 | 0, _ => by
   refine ⟨full (rowsN r), by rw [upTo_zero]; exact hm.dec.1, List.Perm.refl _, fun L hL x hx y hy => ?_, ?_⟩
   · unfold full at hL
     rw [List.mem_filter] at hL
     obtain ⟨row, hrow, rfl⟩ := List.mem_map.1 hL.1
     obtain ⟨v, hv, rfl⟩ := gl_ge hrow
     have hvn : v < n := by have := hm.rot.len; omega
     have h1 := (hm.row_at hvn).1 hx
     have h2 := (hm.row_at hvn).1 hy
     simp only [h1.2, h2.2]
   · have e : Sets.sets (parT n l 0) = n := by
       have h := (Sets.sets_yes n (ends l) 0 (Nat.zero_le _))
       have h2 : Sets.yesTo (List.range n) (ends l) 0 = 0 := rfl
       rw [h2] at h
       exact h
     rw [e]; omega
 | t + 1, ht => by
   obtain ⟨L1, d1, d2, d3, d4⟩ := bound hm t (by omega)
   obtain ⟨u, v, epe, hu, hv, huv, e1, e2⟩ := ends_in hm.good (t := t) (by omega)
   have hP := parT_part n l t
   have hs := Sets.sets_join hP (Sets.pe (ends l) t).1 (Sets.pe (ends l) t).2
   have hsu := parT_succ n l (t := t) (by omega)
   rw [epe] at hs hsu
   simp only at hs hsu
   have ha : 2 * t ∈ L1.flatten := by rw [d2.mem_iff, full_flatten, hm.rows_flat.2]; omega
   have hb : 2 * t + 1 ∈ L1.flatten := by rw [d2.mem_iff, full_flatten, hm.rows_flat.2]; omega
   obtain ⟨L2, k1, k2, k3, k4⟩ := d1.swap (g := upTo (nxf l r) (t + 1)) ha hb (by omega) (upTo_a _ t) (upTo_b _ t) (upTo_other _ t)
   have hlen := hP.len
   by_cases c : Sets.gt (parT n l t) u = Sets.gt (parT n l t) v
   · rw [Sets.joinOf_same c] at hs hsu
     simp only [Bool.false_eq_true, if_false, Nat.add_zero] at hs hsu
     rw [hsu]
     refine ⟨L2, k1, k2.trans d2, k3 _ ?_ d3, ?_⟩
     · simp only [e1, e2, Int.toNat_natCast]; exact c
     · rcases k4 with ⟨k4, _⟩ | k4 <;> omega
   · have ej := Sets.joinOf_two (m := parT n l t) (a := u) (b := v) (by omega) (by omega) c
     rw [ej] at hs hsu
     simp only [if_true] at hs hsu
     have hno : L2.length + 1 = L1.length := by
       rcases k4 with ⟨_, q, hq, q1, q2⟩ | k4
       · have := d3 q hq (2 * t) q1 (2 * t + 1) q2
         simp only [e1, e2, Int.toNat_natCast] at this
         exact absurd this c
       · exact k4
     have hgl : ∀ i, i < n → Sets.gt (parT n l (t + 1)) i = if Sets.gt (parT n l t) i = max (Sets.gt (parT n l t) u) (Sets.gt (parT n l t) v) then min (Sets.gt (parT n l t) u) (Sets.gt (parT n l t) v) else Sets.gt (parT n l t) i := fun i hi => by
       rw [hsu]; exact Sets.glue_get _ _ _ (by omega)
     have hin : ∀ x, x ∈ L1.flatten → (gi (frs l) x).toNat < n := fun x hx => by
       rw [d2.mem_iff, full_flatten, hm.rows_flat.2] at hx
       have := frs_range hm.good hx
       omega
     refine ⟨L2, k1, k2.trans d2, k3 _ ?_ (fun q hq x hx y hy => ?_), ?_⟩
     · simp only [e1, e2, Int.toNat_natCast]
       rw [hgl u hu, hgl v hv]
       rcases Nat.le_total (Sets.gt (parT n l t) u) (Sets.gt (parT n l t) v) with q | q
       · rw [Nat.max_eq_right q, Nat.min_eq_left q, if_neg c, if_pos rfl]
       · rw [Nat.max_eq_left q, Nat.min_eq_right q, if_pos rfl, if_neg (fun e => c e.symm)]
     · have h3 := d3 q hq x hx y hy
       simp only at h3 ⊢
       rw [hgl _ (hin x (List.mem_flatten.2 ⟨q, hq, hx⟩)), hgl _ (hin y (List.mem_flatten.2 ⟨q, hq, hy⟩)), h3]
     · rw [← hsu] at hs
       omega
def lone (r : List (List Int)) : Nat := r.countP fun row => row.isEmpty
theorem parT_all (n : Nat) (l : List Ed) : parT n l l.length = Sets.joinAll (List.range n) (ends l) := by
 unfold parT
 rw [List.take_of_length_le (by rw [ends_length]; exact Nat.le_refl _)]
theorem nth_class {f : Nat → Nat} {l : List Nat} {c : Nat → Nat} (h : Ring f l) (hc : ∀ x ∈ l, c (f x) = c x) {x : Nat} (hx : x ∈ l) : ∀ k, c (Ring.nth f x k) = c x
 | 0 => rfl
 | k + 1 => by
   show c (f (Ring.nth f x k)) = c x
   rw [hc _ (h.nth hx k), nth_class h hc hx k]
theorem ring_class {f : Nat → Nat} {l : List Nat} {c : Nat → Nat} (h : Ring f l) (hc : ∀ x ∈ l, c (f x) = c x) : ∀ x ∈ l, c x = c (l.headD 0) := by
 intro x hx
 cases l with
 | nil => cases hx
 | cons a t =>
   have h2 := ring_cons.1 h
   obtain ⟨k, rfl⟩ := lead_nth t a h2 x hx
   exact nth_class h hc (List.mem_cons_self ..) k
def pick (c : Nat → Nat) (k : Nat) (L : List (List Nat)) : List (List Nat) := L.filter fun l => c (l.headD 0) == k
theorem flatten_filter_sub (p : List Nat → Bool) : ∀ L : List (List Nat), (L.filter p).flatten.Sublist L.flatten
 | [] => List.Sublist.slnil
 | a :: L => by
   have ih := flatten_filter_sub p L
   rw [List.filter_cons]
   split
   · rw [List.flatten_cons, List.flatten_cons]
     exact (List.Sublist.refl a).append ih
   · rw [List.flatten_cons]
     exact ih.trans (List.sublist_append_right a _)
theorem pick_dec {f : Nat → Nat} {c : Nat → Nat} {k : Nat} {L : List (List Nat)} (h : Dec f L) : Dec f (pick c k L) := by
 refine ⟨fun l hl => h.ring l (List.mem_filter.1 hl).1, ?_⟩
 exact List.Nodup.sublist (flatten_filter_sub _ L) h.nodup
theorem pick_mem {f : Nat → Nat} {c : Nat → Nat} {k : Nat} {L : List (List Nat)} (h : Dec f L) (hc : ∀ x ∈ L.flatten, c (f x) = c x) (x : Nat) : x ∈ (pick c k L).flatten ↔ x ∈ L.flatten ∧ c x = k := by
 rw [List.mem_flatten, List.mem_flatten]
 constructor
 · rintro ⟨l, hl, hx⟩
   obtain ⟨h1, h2⟩ := List.mem_filter.1 hl
   refine ⟨⟨l, h1, hx⟩, ?_⟩
   rw [ring_class (h.ring l h1) (fun y hy => hc y (List.mem_flatten.2 ⟨l, h1, hy⟩)) x hx]
   simpa using h2
 · rintro ⟨⟨l, h1, hx⟩, h2⟩
   refine ⟨l, List.mem_filter.2 ⟨h1, ?_⟩, hx⟩
   rw [ring_class (h.ring l h1) (fun y hy => hc y (List.mem_flatten.2 ⟨l, h1, hy⟩)) x hx] at h2
   simpa using h2
structure Cls (n : Nat) (l : List Ed) (c : Nat → Nat) (cv : Nat → Nat) : Prop where
 half : ∀ h, h < 2 * l.length → c h = cv (gi (frs l) h).toNat
 edge : ∀ e, e < l.length → c (2 * e) = c (2 * e + 1)
theorem Cls.twn {c cv : Nat → Nat} (hc : Cls n l c cv) {h : Nat} (hh : h < 2 * l.length) : c (Ring.twn h) = c h := by
 unfold Ring.twn
 split
 · have e : h = 2 * (h / 2) := by omega
   have := hc.edge (h / 2) (by omega)
   rw [← e] at this
   exact this.symm
 · have e : h - 1 = 2 * (h / 2) := by omega
   have e2 : h = 2 * (h / 2) + 1 := by omega
   have := hc.edge (h / 2) (by omega)
   rw [← e2, ← e] at this
   exact this
theorem Cls.nxf {c cv : Nat → Nat} (hc : Cls n l c cv) (hm : IsMap n l r) {h : Nat} (hh : h < 2 * l.length) : c (Rot.nxf l r h) = c h := by
 have h1 := next_in hm.rot (nxOf_next hm.rot) (frs_in hm.good) (x := h) (by rw [frs_length]; exact hh)
 rw [frs_length, hm.nxf_eq hh, Int.toNat_natCast] at h1
 rw [hc.half _ (by omega), hc.half h hh, h1.2.2]
theorem Cls.stf {c cv : Nat → Nat} (hc : Cls n l c cv) (hm : IsMap n l r) {h : Nat} (hh : h < 2 * l.length) : c (Rot.stf l r h) = c h := by
 rw [stf_eq hh, hc.nxf hm (twn_lt hh), hc.twn hh]
theorem class_even (hm : IsMap n l r) {F : List (List Nat)} (hF : Faces (stf l r) (2 * l.length) F) {c cv : Nat → Nat} (hc : Cls n l c cv) (k : Nat) :
   ((pick c k F).length + (pick c k (full (rowsN r))).length + (List.range l.length).countP (fun e => c (2 * e) == k)) % 2 = 0 := by
 have hd := hm.dec
 have m1 : ∀ x, x ∈ (full (rowsN r)).flatten ↔ x < 2 * l.length := fun x => by rw [full_flatten, hm.rows_flat.2]
 have p1 := fun x => pick_mem (c := c) (k := k) hd.1 (fun x hx => hc.nxf hm ((m1 x).1 hx)) x
 obtain ⟨L', d1, d2, d3, _⟩ := parity (pick_dec (c := c) (k := k) hd.1) (fun e => by
   rw [p1, p1, m1, m1]
   constructor
   · rintro ⟨a, b⟩
     exact ⟨by omega, by rw [← hc.edge e (by omega)]; exact b⟩
   · rintro ⟨a, b⟩
     exact ⟨by omega, by rw [hc.edge e (by omega)]; exact b⟩) l.length
 have m2 : ∀ x, x ∈ F.flatten ↔ x < 2 * l.length := fun x => by rw [hF.perm.mem_iff, List.mem_range]
 have p2 := fun x => pick_mem (c := c) (k := k) hF.dec (fun x hx => hc.stf hm ((m2 x).1 hx)) x
 have hp : (pick c k F).flatten.Perm L'.flatten := by
   refine perm_of_same (pick_dec hF.dec).nodup d1.nodup (fun x => ?_)
   rw [p2, d2.mem_iff, p1, m1, m2]
 have h2 := (Dec.unique (fun _ => ()) (fun _ _ _ => rfl) (pick c k F) L' (pick_dec hF.dec) d1 hp).length_eq
 rw [List.length_map, List.length_map] at h2
 have h3 : inn (pick c k (full (rowsN r))).flatten l.length = (List.range l.length).countP (fun e => c (2 * e) == k) := by
   unfold inn
   refine List.countP_congr fun e he => ?_
   rw [List.mem_range] at he
   rw [decide_eq_true_eq, p1, m1, beq_iff_eq]
   exact ⟨fun q => q.2, fun q => ⟨by omega, q⟩⟩
 rw [h3] at d3
 omega
end
end Go.Proofs.Ytmikcfddipldnaa.Rot
namespace Go.Proofs.Ytmikcfddipldnaa.Rot
open Go.RowKit Go.Proofs.YtmikcfddipldnaaW.PrintWords Go.Proofs.YtmikcfddipldnaaW.PrintLast Go.Proofs.YtmikcfddipldnaaW.PrintMore Go.Proofs.Ytmikcfddipldnaa.GAll Go.Proofs.Ytmikcfddipldnaa.Mem Go.Proofs.Ytmikcfddipldnaa.Ring Go.Proofs.Ytmikcfddipldnaa.Face
set_option linter.unusedVariables false
set_option linter.unusedSimpArgs false
theorem sum_ite (c : Nat) {a : Nat} (h : a < c) : ((List.range c).map fun k => if a = k then (1 : Int) else 0).sum = 1 := by
 induction c with
 | zero => omega
 | succ c ih =>
   rw [List.range_succ, List.map_append, List.sum_append]
   by_cases e : a = c
   · subst e
     have h0 : ((List.range a).map fun k => if a = k then (1 : Int) else 0).sum = 0 := by
       have : (List.range a).map (fun k => if a = k then (1 : Int) else 0) = (List.range a).map fun _ => (0 : Int) := List.map_congr_left fun k hk => by
         rw [List.mem_range] at hk
         exact if_neg (by omega)
       rw [this]
       clear this ih h
       induction a with
       | zero => rfl
       | succ a ih => rw [List.range_succ, List.map_append, List.sum_append, ih]; rfl
     rw [h0]; simp
   · rw [ih (by omega)]; simp [e]
theorem sum_add (c : Nat) (f g : Nat → Int) : ((List.range c).map fun k => f k + g k).sum = ((List.range c).map f).sum + ((List.range c).map g).sum := by
 induction c with
 | zero => rfl
 | succ c ih => rw [List.range_succ, List.map_append, List.map_append, List.map_append, List.sum_append, List.sum_append, List.sum_append, ih]; simp; omega
theorem sum_congr {c : Nat} {f g : Nat → Int} (h : ∀ k, k < c → f k = g k) : ((List.range c).map f).sum = ((List.range c).map g).sum := by
 congr 1
 exact List.map_congr_left fun k hk => h k (List.mem_range.1 hk)
theorem sum_zero (c : Nat) : ((List.range c).map fun _ => (0 : Int)).sum = 0 := by
 induction c with
 | zero => rfl
 | succ c ih => rw [List.range_succ, List.map_append, List.sum_append, ih]; rfl
theorem sum_count {α : Type} (c : Nat) (g : α → Nat) : ∀ L : List α, (∀ x ∈ L, g x < c) → ((List.range c).map fun k => ((L.countP fun x => g x == k : Nat) : Int)).sum = L.length
 | [], _ => by
   simp only [List.countP_nil, List.length_nil]
   exact sum_zero c
 | a :: L, h => by
   have ih := sum_count c g L (fun x hx => h x (List.mem_cons_of_mem _ hx))
   have e : ∀ k, k < c → (((a :: L).countP fun x => g x == k : Nat) : Int) = ((L.countP fun x => g x == k : Nat) : Int) + (if g a = k then (1 : Int) else 0) := fun k _ => by
     rw [List.countP_cons]
     by_cases q : g a = k
     · simp [q]
     · simp [q]
   rw [sum_congr e, sum_add, ih, sum_ite c (h a (List.mem_cons_self ..))]
   simp
def num (P : List Nat) (v : Nat) : Nat := PureR.roots P (Sets.gt P v)
theorem roots_onto (P : List Nat) : ∀ n k, k < PureR.roots P n → ∃ i, i < n ∧ Sets.gt P i = i ∧ PureR.roots P i = k
 | 0, k, h => by simp [PureR.roots] at h
 | n + 1, k, h => by
   rw [PureR.roots_succ] at h
   by_cases c : k < PureR.roots P n
   · obtain ⟨i, h1, h2⟩ := roots_onto P n k c
     exact ⟨i, by omega, h2⟩
   · by_cases e : Sets.gt P n = n
     · rw [if_pos e] at h
       exact ⟨n, by omega, e, by omega⟩
     · rw [if_neg e] at h; omega
structure IsComp (n : Nat) (l : List Ed) (r : List (List Int)) (og : List Int) (c : Nat) : Prop where
 len : og.length = n
 key : ∀ k, k ∈ og ↔ 0 ≤ k ∧ k < (c : Int)
 edge : ∀ e, e < l.length → gi og (gi (frs l) (2 * e)).toNat = gi og (gi (frs l) (2 * e + 1)).toNat
 two : ∀ v w, v < n → w < n → v ≠ w → gi og v = gi og w → gl r v ≠ []
section
variable {n : Nat} {l : List Ed} {r : List (List Int)}
def ogOf (n : Nat) (l : List Ed) : List Int := (comps_Of.out (n : Int) l).1.map fun (x : Nat) => (x : Int)
theorem out_eq (n : Nat) (l : List Ed) : comps_Of.out (n : Int) l = Sets.numTo (parT n l l.length) n := by
 rw [parT_all]
 unfold comps_Of.out
 rw [Int.toNat_natCast]
 rfl
theorem parts_sets (n : Nat) (l : List Ed) : parts n l = Sets.sets (parT n l l.length) := by
 unfold parts
 rw [out_eq]
 have h := parT_part n l l.length
 have := Sets.numTo_all h
 rw [h.len] at this
 exact this
theorem parts_roots (n : Nat) (l : List Ed) : parts n l = PureR.roots (parT n l l.length) n := by
 unfold parts
 rw [out_eq]
 exact Sets.numTo_sets (parT_part n l l.length) n (Nat.le_refl _)
theorem gi_og {v : Nat} (hv : v < n) : gi (ogOf n l) v = (num (parT n l l.length) v : Int) := by
 have h := PureR.num_at (parT_part n l l.length) n (Nat.le_refl _) v hv
 have hl := Sets.numTo_length (parT n l l.length) n
 unfold ogOf
 rw [out_eq]
 unfold num
 rw [← h]
 unfold gi Sets.gt
 rw [List.getD_eq_getElem?_getD, List.getD_eq_getElem?_getD, List.getElem?_map, List.getElem?_eq_getElem (by rw [hl]; exact hv)]
 rfl
theorem conn_edge {es : List (Int × Int)} {v w : Nat} (h : Sets.Conn (Sets.EP n es) v w) : v = w ∨ ∃ x, Sets.EP n es v x ∨ Sets.EP n es x v := by
 induction h with
 | refl => exact .inl rfl
 | fwd _ e ih =>
   rcases ih with rfl | ih
   · exact .inr ⟨_, .inl e⟩
   · exact .inr ih
 | bwd _ e ih =>
   rcases ih with rfl | ih
   · exact .inr ⟨_, .inr e⟩
   · exact .inr ih
theorem IsMap.row_ne (hm : IsMap n l r) {v h : Nat} (hv : v < n) (hh : h < 2 * l.length) (e : gi (frs l) h = (v : Int)) : gl r v ≠ [] := by
 intro q
 have := (hm.row_at hv).2 ⟨hh, e⟩
 rw [q] at this
 cases this
theorem IsMap.row_of (hm : IsMap n l r) {v : Nat} (hv : v < n) (h : gl r v ≠ []) : ∃ h, h < 2 * l.length ∧ gi (frs l) h = (v : Int) := by
 obtain ⟨x, hx⟩ := List.exists_mem_of_ne_nil (fN (gl r v)) (by unfold fN; simpa using h)
 exact ⟨x, (hm.row_at hv).1 hx⟩
theorem IsMap.comp (hm : IsMap n l r) : IsComp n l r (ogOf n l) (parts n l) := by
 have hP := parT_part n l l.length
 rw [List.take_of_length_le (by rw [ends_length]; exact Nat.le_refl _)] at hP
 have hlen : (ogOf n l).length = n := by unfold ogOf; rw [List.length_map, out_eq]; exact Sets.numTo_length _ _
 refine ⟨hlen, fun k => ⟨fun hk => ?_, fun hk => ?_⟩, fun e he => ?_, fun v w hv hw hne e => ?_⟩
 · obtain ⟨v, hv, rfl⟩ := List.getElem_of_mem hk
   have hvn : v < n := by omega
   have e : (ogOf n l)[v] = gi (ogOf n l) v := (gi_get0 hv).symm
   rw [e, gi_og hvn, parts_roots]
   have := PureR.roots_lt (n := n) (m := parT n l l.length) (hP.lt hvn) (hP.idem hvn)
   unfold num
   omega
 · obtain ⟨j, rfl⟩ := Int.eq_ofNat_of_zero_le hk.1
   have hj : j < PureR.roots (parT n l l.length) n := by rw [← parts_roots]; omega
   obtain ⟨i, h1, h2, h3⟩ := roots_onto _ n j hj
   have e : (j : Int) = gi (ogOf n l) i := by rw [gi_og h1]; unfold num; rw [h2, h3]
   rw [e, gi_get0 (by omega)]
   exact List.getElem_mem _
 · obtain ⟨u, v, epe, hu, hv, huv, e1, e2⟩ := ends_in hm.good he
   rw [e1, e2, Int.toNat_natCast, Int.toNat_natCast, gi_og hu, gi_og hv]
   have : Sets.EP n (ends l) u v := ⟨hu, hv, by rw [← epe]; exact Sets.pe_mem (by rw [ends_length]; exact he)⟩
   unfold num
   rw [hP.edge u v this]
 · rw [gi_og hv, gi_og hw] at e
   have h1 := PureR.roots_inj (parT n l l.length) (hP.idem hv) (hP.idem hw) (by unfold num at e; omega)
   rcases conn_edge ((hP.iff hv hw).1 h1) with q | ⟨x, q | q⟩
   · exact absurd q hne
   · obtain ⟨_, hx, hmem⟩ := q
     obtain ⟨j, hj, ej⟩ := Sets.mem_pe hmem
     rw [ends_length] at hj
     obtain ⟨u, v', epe, hu, hv', huv, e1, e2⟩ := ends_in hm.good hj
     rw [ej] at epe
     simp only [Prod.mk.injEq] at epe
     exact hm.row_ne hv (h := 2 * j) (by omega) (by rw [e1]; omega)
   · obtain ⟨hx, _, hmem⟩ := q
     obtain ⟨j, hj, ej⟩ := Sets.mem_pe hmem
     rw [ends_length] at hj
     obtain ⟨u, v', epe, hu, hv', huv, e1, e2⟩ := ends_in hm.good hj
     rw [ej] at epe
     simp only [Prod.mk.injEq] at epe
     exact hm.row_ne hv (h := 2 * j + 1) (by omega) (by rw [e2]; omega)
def cv (og : List Int) (v : Nat) : Nat := (gi og v).toNat
def ch (og : List Int) (l : List Ed) (h : Nat) : Nat := cv og (gi (frs l) h).toNat
theorem IsComp.cls {og : List Int} {c : Nat} (h : IsComp n l r og c) : Cls n l (ch og l) (cv og) := ⟨fun _ _ => rfl, fun e he => by unfold ch cv; rw [h.edge e he]⟩
theorem IsComp.cv {og : List Int} {c : Nat} (h : IsComp n l r og c) {v : Nat} (hv : v < n) : gi og v = (cv og v : Int) ∧ cv og v < c := by
 have h1 : gi og v ∈ og := by rw [gi_get0 (by rw [h.len]; exact hv)]; exact List.getElem_mem _
 have := (h.key _).1 h1
 unfold Rot.cv
 omega
theorem pe_frs {j : Nat} (hj : j < l.length) : (pe (ends l) j).1 = gi (frs l) (2 * j) := by rw [pe_ends hj, frs_even hj]
theorem countP_range_map {α : Type} (L : List α) (d : α) (p : α → Bool) : L.countP p = (List.range L.length).countP fun i => p (L.getD i d) := by
 have e : L = (List.range L.length).map fun i => L.getD i d := by
   apply List.ext_getElem
   · simp
   · intro i h1 h2
     simp [List.getD_eq_getElem?_getD, h1]
 conv => lhs; rw [e]
 rw [List.countP_map]
 rfl
theorem IsComp.ni {og : List Int} {c : Nat} (h : IsComp n l r og c) (k : Nat) : Cnt.cntTo og og.length (k : Int) = ((List.range n).countP fun v => Rot.cv og v == k : Nat) := by
 unfold Cnt.cntTo
 rw [List.take_length, countP_range_map og 0, h.len]
 congr 1
 refine List.countP_congr fun v hv => ?_
 rw [List.mem_range] at hv
 have := (h.cv hv).1
 show (gi og v == (k : Int)) = true ↔ _
 rw [this, beq_iff_eq, beq_iff_eq]
 omega
theorem IsComp.mi {og : List Int} {c : Nat} (h : IsComp n l r og c) (hm : IsMap n l r) (k : Nat) : Cnt.cntTo (Cnt.ksE og (ends l)) (ends l).length (k : Int) = ((List.range l.length).countP fun e => ch og l (2 * e) == k : Nat) := by
 unfold Cnt.cntTo
 have e : (Cnt.ksE og (ends l)).length = (ends l).length := by unfold Cnt.ksE; simp
 rw [List.take_of_length_le (by omega), countP_range_map _ 0, e, ends_length]
 congr 1
 refine List.countP_congr fun j hj => ?_
 rw [List.mem_range] at hj
 have h1 := frs_range hm.good (h := 2 * j) (by omega)
 have h2 := (h.cv (v := (gi (frs l) (2 * j)).toNat) (by omega)).1
 have h3 := Cnt.gi_ksE og (ends l) (j := j) (by rw [ends_length]; exact hj)
 show (gi (Cnt.ksE og (ends l)) j == (k : Int)) = true ↔ _
 rw [h3, pe_frs hj, h2, beq_iff_eq, beq_iff_eq]
 unfold ch
 omega
theorem IsComp.fi {og : List Int} {c : Nat} (h : IsComp n l r og c) (hm : IsMap n l r) {F : List (List Nat)} (hF : Faces (stf l r) (2 * l.length) F) (k : Nat) : Cnt.cntTo (Cnt.ksF og (ends l) (F.map zN)) (F.map zN).length (k : Int) = (F.countP fun L => ch og l (L.headD 0) == k : Nat) := by
 unfold Cnt.cntTo Cnt.ksF
 rw [List.take_of_length_le (by simp), List.map_map, List.countP_map]
 congr 1
 refine List.countP_congr fun L hL => ?_
 have hr := hF.dec.ring L hL
 have hx : L.headD 0 ∈ L := by
   cases L with
   | nil => exact absurd rfl hr.1
   | cons a t => simp
 have hlt : L.headD 0 < 2 * l.length := by
   have := hF.perm.mem_iff.1 (List.mem_flatten.2 ⟨L, hL, hx⟩)
   rw [List.mem_range] at this
   exact this
 have e0 : gi (zN L) 0 = (L.headD 0 : Int) := by
   cases L with
   | nil => exact absurd rfl hr.1
   | cons a t => rfl
 have hj : L.headD 0 / 2 < l.length := by omega
 have h1 := frs_range hm.good (h := 2 * (L.headD 0 / 2)) (by omega)
 have h2 := (h.cv (v := (gi (frs l) (2 * (L.headD 0 / 2))).toNat) (by omega)).1
 have h3 : ch og l (2 * (L.headD 0 / 2)) = ch og l (L.headD 0) := by
   rcases Nat.mod_two_eq_zero_or_one (L.headD 0) with q | q
   · rw [show 2 * (L.headD 0 / 2) = L.headD 0 by omega]
   · have := h.cls.edge _ hj
     rw [show 2 * (L.headD 0 / 2) + 1 = L.headD 0 by omega] at this
     exact this
 show (gi og (pe (ends l) ((gi (zN L) 0).toNat / 2)).1.toNat == (k : Int)) = true ↔ _
 rw [e0, Int.toNat_natCast, pe_frs hj, h2, ← h3, beq_iff_eq, beq_iff_eq]
 unfold ch
 omega
theorem pick_rows (hm : IsMap n l r) (og : List Int) (k : Nat) : (pick (ch og l) k (full (rowsN r))).length + (List.range n).countP (fun v => (gl r v).isEmpty && (Rot.cv og v == k)) = (List.range n).countP (fun v => Rot.cv og v == k) := by
 have h1 : (pick (ch og l) k (full (rowsN r))).length = (List.range n).countP (fun v => !(gl r v).isEmpty && (Rot.cv og v == k)) := by
   unfold pick full rowsN
   rw [List.filter_filter, ← List.countP_eq_length_filter, List.countP_map, countP_range_map r [], hm.rot.len]
   refine List.countP_congr fun v hv => ?_
   rw [List.mem_range] at hv
   show ((ch og l ((fN (gl r v)).headD 0) == k) && !(fN (gl r v)).isEmpty) = true ↔ _
   cases hrow : gl r v with
   | nil => simp [fN]
   | cons x t =>
     have hx : x.toNat ∈ fN (gl r v) := by rw [hrow]; simp [fN]
     have := ((hm.row_at hv).1 hx).2
     have e : ch og l ((fN (x :: t)).headD 0) = Rot.cv og v := by
       show Rot.cv og (gi (frs l) x.toNat).toNat = _
       rw [this, Int.toNat_natCast]
     rw [e]
     simp [fN]
 rw [h1]
 have key : ∀ L : List Nat, L.countP (fun v => !(gl r v).isEmpty && (Rot.cv og v == k)) + L.countP (fun v => (gl r v).isEmpty && (Rot.cv og v == k)) = L.countP (fun v => Rot.cv og v == k) := by
   intro L
   induction L with
   | nil => rfl
   | cons a L ih =>
     rw [List.countP_cons, List.countP_cons, List.countP_cons]
     cases (gl r a).isEmpty <;> cases (Rot.cv og a == k) <;> simp <;> omega
 exact key _
theorem countP_pos {α : Type} {p : α → Bool} {L : List α} : 0 < L.countP p ↔ ∃ x ∈ L, p x = true := List.countP_pos_iff
theorem countP_le_one {p : Nat → Bool} : ∀ (L : List Nat), L.Nodup → (∀ x ∈ L, ∀ y ∈ L, p x = true → p y = true → x = y) → L.countP p ≤ 1
 | [], _, _ => by simp
 | a :: L, hn, h => by
   rw [List.nodup_cons] at hn
   have ih := countP_le_one L hn.2 (fun x hx y hy => h x (List.mem_cons_of_mem _ hx) y (List.mem_cons_of_mem _ hy))
   rw [List.countP_cons]
   by_cases c : p a = true
   · have h0 : L.countP p = 0 := by
       rw [List.countP_eq_zero]
       intro x hx hp
       have := h a (List.mem_cons_self ..) x (List.mem_cons_of_mem _ hx) c hp
       exact hn.1 (by rw [this]; exact hx)
     rw [h0, if_pos c]
     exact Nat.le_refl _
   · rw [if_neg c]; omega
theorem IsComp.one {og : List Int} {c : Nat} (h : IsComp n l r og c) (hm : IsMap n l r) {F : List (List Nat)} (hF : Faces (stf l r) (2 * l.length) F) {k : Nat} (hk : k < c) {ni mi fi ii : Nat}
   (h1 : ni = (List.range n).countP fun v => Rot.cv og v == k) (h2 : mi = (List.range l.length).countP fun e => ch og l (2 * e) == k) (h3 : fi = F.countP fun L => ch og l (L.headD 0) == k) (h4 : ii = (List.range n).countP fun v => (gl r v).isEmpty && (Rot.cv og v == k)) :
   2 * Cnt.term (ni : Int) (mi : Int) (fi : Int) = 2 - (ni : Int) + mi - fi - ii := by
 have hev := class_even hm hF h.cls k
 have hpr := pick_rows hm og k
 have hpf : (pick (ch og l) k F).length = fi := by rw [h3]; unfold pick; rw [← List.countP_eq_length_filter]
 rw [hpf, ← h2] at hev
 rw [← h4, ← h1] at hpr
 have hedge : ∀ x, x < 2 * l.length → ch og l x = k → 0 < mi := fun x hx e => by
   rw [h2, countP_pos]
   refine ⟨x / 2, by rw [List.mem_range]; omega, ?_⟩
   rw [beq_iff_eq, ← e]
   rcases Nat.mod_two_eq_zero_or_one x with q | q
   · rw [show 2 * (x / 2) = x by omega]
   · have := h.cls.edge (x / 2) (by omega)
     rw [show 2 * (x / 2) + 1 = x by omega] at this
     exact this
 have hrow : ∀ v, v < n → Rot.cv og v = k → gl r v ≠ [] → 0 < mi := fun v hv e hne => by
   obtain ⟨x, hx, ex⟩ := hm.row_of hv hne
   exact hedge x hx (by unfold ch; rw [ex, Int.toNat_natCast]; exact e)
 have htwo : ∀ v w, v < n → w < n → v ≠ w → Rot.cv og v = Rot.cv og w → gl r v ≠ [] := fun v w hv hw hne e => h.two v w hv hw hne (by rw [(h.cv hv).1, (h.cv hw).1, e])
 by_cases c0 : 0 < mi
 · have hi0 : ii = 0 := by
     rw [h4, List.countP_eq_zero]
     intro v hv
     rw [List.mem_range] at hv
     intro q
     rw [Bool.and_eq_true, beq_iff_eq, List.isEmpty_iff] at q
     rw [h2, countP_pos] at c0
     obtain ⟨e, he, ee⟩ := c0
     rw [List.mem_range] at he
     rw [beq_iff_eq] at ee
     have hfr := frs_range hm.good (h := 2 * e) (by omega)
     obtain ⟨u, hu⟩ := Int.eq_ofNat_of_zero_le hfr.1
     by_cases cu : u = v
     · subst cu
       exact hm.row_ne hv (h := 2 * e) (by omega) hu q.1
     · exact htwo v u hv (by omega) (fun x => cu x.symm) (by
         rw [q.2, ← ee]
         unfold ch
         rw [hu]; rfl) q.1
   unfold Cnt.term
   rw [if_pos (by omega), Cnt.tdiv2]
   split <;> omega
 · have hn1 : ni = 1 := by
     have hle : ni ≤ 1 := by
       rw [h1]
       refine countP_le_one _ List.nodup_range (fun x hx y hy px py => Decidable.byContradiction fun hne => ?_)
       rw [List.mem_range] at hx hy
       rw [beq_iff_eq] at px py
       exact c0 (hrow x hx px (htwo x y hx hy hne (by rw [px, py])))
     have hge : 0 < ni := by
       rw [h1, countP_pos]
       have hmem := (h.key (k : Int)).2 ⟨by omega, by omega⟩
       obtain ⟨v, hv, e⟩ := List.getElem_of_mem hmem
       rw [← gi_get0 hv] at e
       refine ⟨v, by rw [List.mem_range, ← h.len]; exact hv, ?_⟩
       rw [beq_iff_eq]
       unfold Rot.cv
       rw [e]; rfl
     omega
   have hii : ii = ni := by
     rw [h4, h1]
     refine List.countP_congr fun v hv => ?_
     rw [List.mem_range] at hv
     rw [Bool.and_eq_true, beq_iff_eq, List.isEmpty_iff]
     refine ⟨fun q => q.2, fun q => ⟨Decidable.byContradiction fun hne => c0 (hrow v hv q hne), q⟩⟩
   have hfi : fi = 0 := by
     rw [h3, List.countP_eq_zero]
     intro L hL q
     rw [beq_iff_eq] at q
     have hr := hF.dec.ring L hL
     have hx : L.headD 0 ∈ L := by
       cases L with
       | nil => exact absurd rfl hr.1
       | cons a t => simp
     have := hF.perm.mem_iff.1 (List.mem_flatten.2 ⟨L, hL, hx⟩)
     rw [List.mem_range] at this
     exact c0 (hedge _ this q)
   unfold Cnt.term
   rw [if_neg (by omega)]
   omega
theorem IsComp.lt {og : List Int} {c : Nat} (h : IsComp n l r og c) (hm : IsMap n l r) {x : Nat} (hx : x < 2 * l.length) : ch og l x < c := by
 have := frs_range hm.good hx
 exact (h.cv (v := (gi (frs l) x).toNat) (by omega)).2
theorem lone_count (hm : IsMap n l r) : lone r = (List.range n).countP fun v => (gl r v).isEmpty := by
 unfold lone
 rw [countP_range_map r [], hm.rot.len]
 rfl
theorem IsComp.twice {og : List Int} {c : Nat} (h : IsComp n l r og c) (hm : IsMap n l r) {F : List (List Nat)} (hF : Faces (stf l r) (2 * l.length) F) :
   2 * Cnt.genusSum og (ends l) (F.map zN) c = 2 * (c : Int) - n + l.length - F.length - lone r := by
 have e2 : ∀ (f : Nat → Int), 2 * ((List.range c).map f).sum = ((List.range c).map fun k => 2 * f k).sum := fun f => by
   have := sum_add c f f
   rw [show (fun k => 2 * f k) = fun k => f k + f k from funext fun k => by omega, this]
   omega
 unfold Cnt.genusSum
 rw [e2]
 have hone : ∀ k, k < c → 2 * Cnt.term (Cnt.cntTo og og.length (k : Int)) (Cnt.cntTo (Cnt.ksE og (ends l)) (ends l).length (k : Int)) (Cnt.cntTo (Cnt.ksF og (ends l) (F.map zN)) (F.map zN).length (k : Int)) =
     ((2 + -(((List.range n).countP fun v => Rot.cv og v == k : Nat) : Int)) + ((List.range l.length).countP fun e => ch og l (2 * e) == k : Nat)) + (-((F.countP fun L => ch og l (L.headD 0) == k : Nat) : Int) + -(((List.range n).countP fun v => (gl r v).isEmpty && (Rot.cv og v == k) : Nat) : Int)) := fun k hk => by
   rw [h.ni k, h.mi hm k, h.fi hm hF k, h.one hm hF hk rfl rfl rfl rfl]
   omega
 rw [sum_congr hone, sum_add, sum_add, sum_add, sum_add]
 have neg : ∀ (f : Nat → Int), ((List.range c).map fun k => -(f k)).sum = -((List.range c).map f).sum := fun f => by
   have := sum_add c (fun k => -(f k)) f
   rw [sum_congr (f := fun k => -(f k) + f k) (g := fun _ => 0) (fun k _ => by omega), sum_zero] at this
   omega
 rw [neg, neg, neg]
 have s1 := sum_count c (fun v => Rot.cv og v) (List.range n) (fun v hv => (h.cv (List.mem_range.1 hv)).2)
 have s2 := sum_count c (fun e => ch og l (2 * e)) (List.range l.length) (fun e he => h.lt hm (by rw [List.mem_range] at he; omega))
 have s3 := sum_count c (fun L : List Nat => ch og l (L.headD 0)) F (fun L hL => by
   have hr := hF.dec.ring L hL
   have hx : L.headD 0 ∈ L := by
     cases L with
     | nil => exact absurd rfl hr.1
     | cons a t => simp
   have := hF.perm.mem_iff.1 (List.mem_flatten.2 ⟨L, hL, hx⟩)
   rw [List.mem_range] at this
   exact h.lt hm this)
 have s4 : ((List.range c).map fun k => (((List.range n).countP fun v => (gl r v).isEmpty && (Rot.cv og v == k) : Nat) : Int)).sum = (lone r : Int) := by
   have := sum_count c (fun v => Rot.cv og v) ((List.range n).filter fun v => (gl r v).isEmpty) (fun v hv => (h.cv (List.mem_range.1 (List.mem_filter.1 hv).1)).2)
   rw [← List.countP_eq_length_filter, ← lone_count hm] at this
   rw [← this]
   refine sum_congr fun k _ => ?_
   rw [List.countP_filter]
   congr 1
   refine List.countP_congr fun v _ => ?_
   rw [Bool.and_comm]
 have s5 : ((List.range c).map fun _ => (2 : Int)).sum = 2 * (c : Int) := by
   have : ∀ q : Nat, ((List.range q).map fun _ => (2 : Int)).sum = 2 * (q : Int) := fun q => by
     induction q with
     | zero => rfl
     | succ q ih => rw [List.range_succ, List.map_append, List.sum_append, ih]; simp; omega
   exact this c
 rw [List.length_range] at s1 s2
 rw [s1, s2, s3, s4, s5]
 omega
end
end Go.Proofs.Ytmikcfddipldnaa.Rot
namespace Go.Proofs.Ytmikcfddipldnaa.GAll
open Go.RowKit Go.Proofs.YtmikcfddipldnaaW.PrintWords Go.Proofs.YtmikcfddipldnaaW.PrintLast Go.Proofs.YtmikcfddipldnaaW.PrintMore
attribute [local go_sem] max2_int min2_int max_two min_two max_three min_three max_four min_four   -- for this text's walks alone
set_option linter.unusedVariables false
set_option linter.unusedSimpArgs false
def faces_Genus.told (l : List S56) (fs : List (List Int)) (o : List Int × Int × Int) : Option (Int × Int) :=
 if o.2.2 = 0 ∧ 0 ≤ o.2.1 ∧ Cnt.fitB o.1 (l.map fun x => (x.f0, x.f1)) fs o.2.1.toNat = true then some (Cnt.genusSum o.1 (l.map fun x => (x.f0, x.f1)) fs o.2.1.toNat, 0) else none
def faces_Genus.f (k : Nat) (a0_0 : Int) (l0_1 : List S56) (l1 : List (List Int)) : Option (Int × Int) := (faces_Of.f k a0_0 l0_1 l1).bind fun t => if t.2 = 0 then (comps_Of.f k a0_0 l0_1).bind fun o => faces_Genus.told l0_1 t.1 o else some (0, t.2)
theorem faces_Genus.mono : ∀ a0 a1 a2 k, LeO (faces_Genus.f k a0 a1 a2) (faces_Genus.f (k + 1) a0 a1 a2) := by
 intro a0 a1 a2 k
 unfold faces_Genus.f
 exact LeO.bind (faces_Of.mono _ _ _ _) (fun _ => LeO.ite (LeO.bind (comps_Of.mono _ _ _) (fun _ => LeO.refl _)) (LeO.refl _))
theorem faces_Genus.calls (k : Nat) (a0_0 : Int) (A0_1 : Option Addr) (c0_1 : Nat) (l0_1 : List (S56)) (A1 : Option Addr) (c1 : Nat) (l1 : List (List Int)) (r1 : Int) (r2 : Int) (w : World) (hr0_1 : Kd.C k56 w A0_1 l0_1.length l0_1) (hc0_1 : l0_1.length ≤ c0_1) (hr1 : Kd.C (Kd.slice 3 (Kd.int .i64)) w A1 l1.length l1) (hc1 : l1.length ≤ c1) (h : faces_Genus.f k a0_0 l0_1 l1 = some (r1, r2)) :
   Calls Try.prog 18 #[.agg #[.int .i64 a0_0, .slice A0_1 l0_1.length c0_1], .slice A1 l1.length c1] w fun e w' => e = .returned (.tuple #[.int .i64 r1, .int .i64 r2]) ∧ Below w.heap.size w w' := by
 obtain ⟨⟨fs, e0⟩, ht, h⟩ := Option.bind_eq_some_iff.mp h
 have hof : Cnt.OfSays fs e0 a0_0 A0_1 l0_1.length c0_1 A1 l1.length c1 w := fun W hW => (faces_Of.calls k a0_0 A0_1 c0_1 l0_1 A1 c1 l1 fs e0 W (Kd.C_below hr0_1 hW) hc0_1 (Kd.C_below hr1 hW) hc1 ht).mono fun e w' ⟨v, h1, h2, h3⟩ => ⟨v, h1, Kd.S_R h2, h3⟩
 by_cases he : e0 = 0
 · subst he
   rw [if_pos rfl] at h
   obtain ⟨⟨og, cn, e1⟩, hc, h⟩ := Option.bind_eq_some_iff.mp h
   unfold faces_Genus.told at h
   by_cases hf : (og, cn, e1).2.2 = 0 ∧ 0 ≤ (og, cn, e1).2.1 ∧ Cnt.fitB (og, cn, e1).1 (l0_1.map fun x => (x.f0, x.f1)) fs (og, cn, e1).2.1.toNat = true
   · rw [if_pos hf] at h
     obtain ⟨rfl, rfl⟩ : Cnt.genusSum og (l0_1.map fun x => (x.f0, x.f1)) fs cn.toNat = r1 ∧ 0 = r2 := by simpa using h
     obtain ⟨g1, g2, g3⟩ := hf
     simp only at g1 g2 g3
     subst g1
     obtain ⟨c, rfl⟩ := Int.eq_ofNat_of_zero_le g2
     have hco : Cnt.CompsSays og c a0_0 A0_1 l0_1.length c0_1 w := fun W hW => (comps_Of.calls k a0_0 A0_1 c0_1 l0_1 og _ 0 W (Kd.C_below hr0_1 hW) hc0_1 hc).mono fun e w' ⟨v, h1, h2, h3⟩ => ⟨v, h1, h2, h3⟩
     obtain ⟨es, hes⟩ : ∃ es : List (Int × Int), es = l0_1.map fun x => (x.f0, x.f1) := ⟨_, rfl⟩
     have hp : Sets.Pairs w A0_1 es := by rw [hes]; exact comps_Of.pairs hr0_1
     have hp2 : Mem.Pairs w A0_1 es := fun i hi => hp i hi
     have hl : l0_1.length = es.length := by rw [hes, List.length_map]
     rw [← hes] at g3 ⊢
     exact Cnt.genus_ok a0_0 A0_1 es l0_1.length c0_1 A1 l1.length c1 fs og c w hl hp2 (Cnt.fit_of.1 g3) hof hco
   · rw [if_neg hf] at h; cases h
 · rw [if_neg he] at h
   obtain ⟨rfl, rfl⟩ : (0 : Int) = r1 ∧ e0 = r2 := by simpa using h
   exact Cnt.genus_bad a0_0 A0_1 l0_1.length c0_1 A1 l1.length c1 e0 he fs w hof
end Go.Proofs.Ytmikcfddipldnaa.GAll
namespace Go.Proofs.Ytmikcfddipldnaa.GAll
open Go.RowKit Go.Proofs.YtmikcfddipldnaaW.PrintWords Go.Proofs.YtmikcfddipldnaaW.PrintLast Go.Proofs.YtmikcfddipldnaaW.PrintMore
attribute [local go_sem] max2_int min2_int max_two min_two max_three min_three max_four min_four   -- for this text's walks alone
set_option linter.unusedVariables false
set_option linter.unusedSimpArgs false
def faces_Flat.f (k : Nat) (a0_0 : Int) (l0_1 : List (S56)) (l1 : List (List Int)) : Option (Bool) := (faces_Genus.f k a0_0 l0_1 l1).bind fun bt135 => (if bt135.2 = 0 then (some (bt135.1 == 0)) else (some false))
theorem faces_Flat.mono : ∀ a0 a1 a2 k, LeO (faces_Flat.f k a0 a1 a2) (faces_Flat.f (k + 1) a0 a1 a2) := by
 intro a0 a1 a2 k
 unfold faces_Flat.f
 repeat' first
     | (with_reducible exact faces_Genus.mono _ _ _ _)
     | (with_reducible exact LeO.refl _)
     | (with_reducible exact LeO.none _)
     | (with_reducible refine LeO.ite ?_ ?_)
     | (with_reducible refine LeO.bind ?_ (fun _ => ?_))
     | exact faces_Genus.mono _ _ _ _
     | exact LeO.none _
     | refine LeO.ite ?_ ?_
     | refine LeO.bind ?_ (fun _ => ?_)
set_option maxHeartbeats 8000000 in
set_option maxRecDepth 100000 in
theorem faces_Flat.calls (k : Nat) (a0_0 : Int) (A0_1 : Option Addr) (c0_1 : Nat) (l0_1 : List (S56)) (A1 : Option Addr) (c1 : Nat) (l1 : List (List Int)) (r : Bool) (w : World) (hr0_1 : Kd.C k56 w A0_1 l0_1.length l0_1) (hc0_1 : l0_1.length ≤ c0_1) (hr1 : Kd.C (Kd.slice 3 (Kd.int .i64)) w A1 l1.length l1) (hc1 : l1.length ≤ c1) (h : faces_Flat.f k a0_0 l0_1 l1 = some r) :
   Calls Try.prog 20 #[.agg #[.int .i64 a0_0, .slice A0_1 l0_1.length c0_1], .slice A1 l1.length c1] w fun e w' => e = .returned (.bool r) ∧ Below w.heap.size w w' := by
 have hu24 := Try.underlying24
 have HR0_1 := Aside0.mk hr0_1
 have HC0_1 := Aside0.mk hc0_1
 clear hr0_1 hc0_1
 have HR1 := Aside0.mk hr1
 have HC1 := Aside0.mk hc1
 clear hr1 hc1
 have HB := Aside0.mk (Below.refl w.heap.size w)
 have H : ((faces_Genus.f k a0_0 l0_1 l1).bind fun bt135 => (if bt135.2 = 0 then (some (bt135.1 == 0)) else (some false))) = some r := h
 clear h
 replace H := Option.bind_eq_some_iff.mp H
 obtain ⟨⟨t135, t136⟩, A30, H⟩ := H
 replace H : (if t136 = 0 then (some (t135 == 0)) else (some false)) = some r := H
 have A3 := Aside0.mk A30
 clear A30
 by_cases c4 : t136 = 0
 · rw [if_pos c4] at H
   have c4b0 : (t136 == 0) = true := beq_iff_eq.mpr c4
   have c4b1 : (t136 != 0) = false := bne_eq_false_iff_eq.mpr c4
   clear c4
   obtain rfl := Option.some.inj H
   go_enter Try.func20, Try.ntmps20
   go_wp2_with (first | ((with_reducible refine gate_dst (N := 2) rfl ?_); refine box_event ?hg (N := 2) ?hd (cs := #[.int .i64 a0_0, .slice A0_1 l0_1.length c0_1]) (t := 24) ?hr ?_; (case hd => rfl); (case hg => rfl); (case hr => first | (go_simp; done) | (go_simp; rfl)); intro gb134 hg w5 hbox hb; have n0_ := Aside0.mk (below_step (by repeat (first | (with_reducible first | exact HB.out | apply below_alloc | apply pw_below_drewN | apply below_drew1) | exact HB.out)) hb); have n1_ := Aside0.mk (hbox); have n2_ := Aside0.mk ((by rw [hg]; exact (below_size (by repeat (first | (with_reducible first | exact HB.out | apply below_alloc | apply pw_below_drewN | apply below_drew1) | exact HB.out))) : w.heap.size ≤ gb134)); have n3_ := Aside0.mk ((by rw [hg]; exact (below_size (by repeat (first | (with_reducible first | exact HB.out | apply below_alloc | apply pw_below_drewN | apply below_drew1) | exact HB.out))) : w.heap.size ≤ gb134)); clear HB; have HB := n0_; have BK134 := n1_; have GW134 := n2_; have GE134 := n3_; clear n0_ n1_ n2_ n3_; clear hb hbox hg; have hcz6_0 : w5.cell? ⟨gb134, 0, none⟩ = some (.int .i64 a0_0) := (blk_cell BK134.out 0).trans rfl; have hcz6_1 : w5.cell? ⟨gb134, 1, none⟩ = some (.slice A0_1 l0_1.length c0_1) := (blk_cell BK134.out 1).trans rfl; have hfz6_0 := blk_frozen BK134.out 0; have hfz6_1 := blk_frozen BK134.out 1) | ((with_reducible refine gate_callee (f := 18) rfl ?_); refine goesL_ (some 10) rfl rfl Try.func18 (by kernel_rfl) rfl #[.agg #[.int .i64 a0_0, .slice A0_1 l0_1.length c0_1], .slice A1 l1.length c1] rfl (by (try simp only [List.map_toArray, List.map_cons, List.map_nil]); first | done | rfl | (simp only [List.length_drop, List.length_take]; rfl)) ?_; (with_reducible refine (faces_Genus.calls k a0_0 _ _ l0_1 _ _ l1 t135 t136 _ ?side1 ?side2 ?side3 ?side4 A3.out).mono ?_); (case side1 => repeat (first | exact (Kd.C_below HR0_1.out HB.out) | (with_reducible refine Kd.C_alloc ?_ _) | (with_reducible refine Kd.C_drewN ?_ _) | (with_reducible refine Kd.C_drew ?_))); (case side2 => exact HC0_1.out); (case side3 => repeat (first | exact (Kd.C_below HR1.out HB.out) | (with_reducible refine Kd.C_alloc ?_ _) | (with_reducible refine Kd.C_drewN ?_ _) | (with_reducible refine Kd.C_drew ?_))); (case side4 => exact HC1.out); rintro e w7 ⟨rfl, hb⟩; refine ⟨_, rfl, ?_⟩; have n0_ := Aside0.mk (blk_below (g := gb134) (o := .cells #[.int .i64 a0_0, .slice A0_1 l0_1.length c0_1] 24 (0, 0)) (by (with_reducible repeat (first | refine blk_drewN ?_ _ | refine blk_drew ?_ | refine blk_alloc ?_ _)); exact BK134.out) hb); have n1_ := Aside0.mk (below_step (by repeat (first | (with_reducible first | exact HB.out | apply below_alloc | apply pw_below_drewN | apply below_drew1 | refine below_set ?_ GE134.out) | exact HB.out)) hb); clear BK134; clear HB; have BK134 := n0_; have HB := n1_; clear n0_ n1_; (try clear hb); (try clear hb2); (try clear hk); (try clear hi)))
   go_ret
   exact ⟨by first | rfl | (simp [errW_none, errW_some] <;> rfl) | (simp [*, errW_none, errW_some] <;> rfl), by repeat (first | (with_reducible first | exact HB.out | apply below_alloc | apply pw_below_drewN | apply below_drew1 | refine below_set ?_ GE134.out) | exact HB.out)⟩
 · rw [if_neg c4] at H
   have c4b0 : (t136 == 0) = false := beq_eq_false_iff_ne.mpr c4
   have c4b1 : (t136 != 0) = true := bne_iff_ne.mpr c4
   obtain rfl := Option.some.inj H
   go_enter Try.func20, Try.ntmps20
   go_wp2_with (first | ((with_reducible refine gate_dst (N := 2) rfl ?_); refine box_event ?hg (N := 2) ?hd (cs := #[.int .i64 a0_0, .slice A0_1 l0_1.length c0_1]) (t := 24) ?hr ?_; (case hd => rfl); (case hg => rfl); (case hr => first | (go_simp; done) | (go_simp; rfl)); intro gb134 hg w8 hbox hb; have n0_ := Aside0.mk (below_step (by repeat (first | (with_reducible first | exact HB.out | apply below_alloc | apply pw_below_drewN | apply below_drew1) | exact HB.out)) hb); have n1_ := Aside0.mk (hbox); have n2_ := Aside0.mk ((by rw [hg]; exact (below_size (by repeat (first | (with_reducible first | exact HB.out | apply below_alloc | apply pw_below_drewN | apply below_drew1) | exact HB.out))) : w.heap.size ≤ gb134)); have n3_ := Aside0.mk ((by rw [hg]; exact (below_size (by repeat (first | (with_reducible first | exact HB.out | apply below_alloc | apply pw_below_drewN | apply below_drew1) | exact HB.out))) : w.heap.size ≤ gb134)); clear HB; have HB := n0_; have BK134 := n1_; have GW134 := n2_; have GE134 := n3_; clear n0_ n1_ n2_ n3_; clear hb hbox hg; have hcz9_0 : w8.cell? ⟨gb134, 0, none⟩ = some (.int .i64 a0_0) := (blk_cell BK134.out 0).trans rfl; have hcz9_1 : w8.cell? ⟨gb134, 1, none⟩ = some (.slice A0_1 l0_1.length c0_1) := (blk_cell BK134.out 1).trans rfl; have hfz9_0 := blk_frozen BK134.out 0; have hfz9_1 := blk_frozen BK134.out 1) | ((with_reducible refine gate_callee (f := 18) rfl ?_); refine goesL_ (some 10) rfl rfl Try.func18 (by kernel_rfl) rfl #[.agg #[.int .i64 a0_0, .slice A0_1 l0_1.length c0_1], .slice A1 l1.length c1] rfl (by (try simp only [List.map_toArray, List.map_cons, List.map_nil]); first | done | rfl | (simp only [List.length_drop, List.length_take]; rfl)) ?_; (with_reducible refine (faces_Genus.calls k a0_0 _ _ l0_1 _ _ l1 t135 t136 _ ?side1 ?side2 ?side3 ?side4 A3.out).mono ?_); (case side1 => repeat (first | exact (Kd.C_below HR0_1.out HB.out) | (with_reducible refine Kd.C_alloc ?_ _) | (with_reducible refine Kd.C_drewN ?_ _) | (with_reducible refine Kd.C_drew ?_))); (case side2 => exact HC0_1.out); (case side3 => repeat (first | exact (Kd.C_below HR1.out HB.out) | (with_reducible refine Kd.C_alloc ?_ _) | (with_reducible refine Kd.C_drewN ?_ _) | (with_reducible refine Kd.C_drew ?_))); (case side4 => exact HC1.out); rintro e w10 ⟨rfl, hb⟩; refine ⟨_, rfl, ?_⟩; have n0_ := Aside0.mk (blk_below (g := gb134) (o := .cells #[.int .i64 a0_0, .slice A0_1 l0_1.length c0_1] 24 (0, 0)) (by (with_reducible repeat (first | refine blk_drewN ?_ _ | refine blk_drew ?_ | refine blk_alloc ?_ _)); exact BK134.out) hb); have n1_ := Aside0.mk (below_step (by repeat (first | (with_reducible first | exact HB.out | apply below_alloc | apply pw_below_drewN | apply below_drew1 | refine below_set ?_ GE134.out) | exact HB.out)) hb); clear BK134; clear HB; have BK134 := n0_; have HB := n1_; clear n0_ n1_; (try clear hb); (try clear hb2); (try clear hk); (try clear hi)))
   go_ret
   exact ⟨by first | rfl | (simp [errW_none, errW_some] <;> rfl) | (simp [*, errW_none, errW_some] <;> rfl), by repeat (first | (with_reducible first | exact HB.out | apply below_alloc | apply pw_below_drewN | apply below_drew1 | refine below_set ?_ GE134.out) | exact HB.out)⟩
end Go.Proofs.Ytmikcfddipldnaa.GAll
namespace Go.Proofs.Ytmikcfddipldnaa.GAll
open Go.RowKit Go.Proofs.YtmikcfddipldnaaW.PrintWords Go.Proofs.YtmikcfddipldnaaW.PrintLast Go.Proofs.YtmikcfddipldnaaW.PrintMore
attribute [local go_sem] max2_int min2_int max_two min_two max_three min_three max_four min_four   -- for this text's walks alone
set_option linter.unusedVariables false
set_option linter.unusedSimpArgs false
mutual
def tangramref05_Isolated.l0 : Nat → List Bool → Int → Int → List (S56) → Option (Int × Int)
 | 0, _, _, _, _ => none
 | k + 1, x4, x5, x183000, x183001 => if x5 < (x183001.length : Int) then (if 0 ≤ x5 then (if 0 ≤ ((rd_T56 x183001 x5).f0) then (if ((rd_T56 x183001 x5).f0) < (x4.length : Int) then (if 0 ≤ ((rd_T56 x183001 x5).f1) then (if ((rd_T56 x183001 x5).f1) < (x4.length : Int) then (tangramref05_Isolated.l0 k ((x4.set (((rd_T56 x183001 x5).f0) : Int).toNat true).set (((rd_T56 x183001 x5).f1) : Int).toNat true) (wrap64 (x5 + 1)) x183000 x183001) else (none)) else (none)) else (none)) else (none)) else (none)) else (tangramref05_Isolated.l1 k x4 0 0 x183000 x183001)
def tangramref05_Isolated.l1 : Nat → List Bool → Int → Int → Int → List (S56) → Option (Int × Int)
 | 0, _, _, _, _, _ => none
 | k + 1, x4, x6, x7, x183000, x183001 => if x7 < x183000 then (if 0 ≤ x7 then (if x7 < (x4.length : Int) then (if rdOf false x4 x7 = true then (tangramref05_Isolated.l1 k x4 x6 (wrap64 (x7 + 1)) x183000 x183001) else (tangramref05_Isolated.l1 k x4 (wrap64 (x6 + 1)) (wrap64 (x7 + 1)) x183000 x183001)) else (none)) else (none)) else (some (x6, 0))
end
def tangramref05_Isolated.f (k : Nat) (a0_0 : Int) (l0_1 : List (S56)) : Option (Int × Int) := (tangramref03_Valid.f k a0_0 l0_1).bind fun t183 => (if t183 = true then (if 0 ≤ a0_0 then (if (a0_0 : Int).toNat ≤ 281474976710656 then (tangramref05_Isolated.l0 k (List.replicate (a0_0 : Int).toNat false) 0 a0_0 l0_1) else (none)) else (none)) else (some (0, 1)))
theorem tangramref05_Isolated.mono_l : ∀ k, (∀ y0 y1 y2 y3, LeO (tangramref05_Isolated.l0 k y0 y1 y2 y3) (tangramref05_Isolated.l0 (k + 1) y0 y1 y2 y3)) ∧ (∀ y0 y1 y2 y3 y4, LeO (tangramref05_Isolated.l1 k y0 y1 y2 y3 y4) (tangramref05_Isolated.l1 (k + 1) y0 y1 y2 y3 y4))
 | 0 => ⟨fun _ _ _ _ r h => by simp [tangramref05_Isolated.l0] at h, fun _ _ _ _ _ r h => by simp [tangramref05_Isolated.l1] at h⟩
 | k + 1 => by
   obtain ⟨ih0, ih1⟩ := tangramref05_Isolated.mono_l k
   refine ⟨?_, ?_⟩
   · intro y0 y1 y2 y3
     unfold tangramref05_Isolated.l0
     repeat' first
     | (with_reducible exact ih0 _ _ _ _)
     | (with_reducible exact ih1 _ _ _ _ _)
     | (with_reducible exact tangramref03_Valid.mono _ _ _)
     | (with_reducible exact LeO.refl _)
     | (with_reducible exact LeO.none _)
     | (with_reducible refine LeO.ite ?_ ?_)
     | (with_reducible refine LeO.bind ?_ (fun _ => ?_))
     | exact ih0 _ _ _ _
     | exact ih1 _ _ _ _ _
     | exact tangramref03_Valid.mono _ _ _
     | exact LeO.none _
     | refine LeO.ite ?_ ?_
     | refine LeO.bind ?_ (fun _ => ?_)
   · intro y0 y1 y2 y3 y4
     unfold tangramref05_Isolated.l1
     repeat' first
     | (with_reducible exact ih0 _ _ _ _)
     | (with_reducible exact ih1 _ _ _ _ _)
     | (with_reducible exact tangramref03_Valid.mono _ _ _)
     | (with_reducible exact LeO.refl _)
     | (with_reducible exact LeO.none _)
     | (with_reducible refine LeO.ite ?_ ?_)
     | (with_reducible refine LeO.bind ?_ (fun _ => ?_))
     | exact ih0 _ _ _ _
     | exact ih1 _ _ _ _ _
     | exact tangramref03_Valid.mono _ _ _
     | exact LeO.none _
     | refine LeO.ite ?_ ?_
     | refine LeO.bind ?_ (fun _ => ?_)
theorem tangramref05_Isolated.mono : ∀ a0 a1 k, LeO (tangramref05_Isolated.f k a0 a1) (tangramref05_Isolated.f (k + 1) a0 a1) := by
 intro a0 a1 k
 obtain ⟨ih0, ih1⟩ := tangramref05_Isolated.mono_l k
 unfold tangramref05_Isolated.f
 repeat' first
     | (with_reducible exact ih0 _ _ _ _)
     | (with_reducible exact ih1 _ _ _ _ _)
     | (with_reducible exact tangramref03_Valid.mono _ _ _)
     | (with_reducible exact LeO.refl _)
     | (with_reducible exact LeO.none _)
     | (with_reducible refine LeO.ite ?_ ?_)
     | (with_reducible refine LeO.bind ?_ (fun _ => ?_))
     | exact ih0 _ _ _ _
     | exact ih1 _ _ _ _ _
     | exact tangramref03_Valid.mono _ _ _
     | exact LeO.none _
     | refine LeO.ite ?_ ?_
     | refine LeO.bind ?_ (fun _ => ?_)
end Go.Proofs.Ytmikcfddipldnaa.GAll
namespace Go.Proofs.Ytmikcfddipldnaa.GAll
open Go.RowKit Go.Proofs.YtmikcfddipldnaaW.PrintWords Go.Proofs.YtmikcfddipldnaaW.PrintLast Go.Proofs.YtmikcfddipldnaaW.PrintMore
attribute [local go_sem] max2_int min2_int max_two min_two max_three min_three max_four min_four   -- for this text's walks alone
set_option linter.unusedVariables false
set_option linter.unusedSimpArgs false
def tangramref12_Genus.f (k : Nat) (a0_0 : Int) (l0_1 : List (S56)) (l1 : List (List Int)) : Option (Int × Int) := (tangramref12_Of.f k a0_0 l0_1 l1).bind fun bt193 => (if bt193.2 = 0 then ((tangramref05_Of.f k a0_0 l0_1).bind fun bt197 => ((tangramref05_Isolated.f k a0_0 l0_1).bind fun bt202 => (some (wrap64 (Int.tdiv (wrap64 ((wrap64 ((wrap64 ((wrap64 ((wrap64 (2 * bt197.2.1)) - bt202.1)) - a0_0)) + (l0_1.length : Int))) - (bt193.1.length : Int))) 2), 0)))) else (some (0, bt193.2)))
theorem tangramref12_Genus.mono : ∀ a0 a1 a2 k, LeO (tangramref12_Genus.f k a0 a1 a2) (tangramref12_Genus.f (k + 1) a0 a1 a2) := by
 intro a0 a1 a2 k
 unfold tangramref12_Genus.f
 repeat' first
     | (with_reducible exact tangramref05_Isolated.mono _ _ _)
     | (with_reducible exact tangramref05_Of.mono _ _ _)
     | (with_reducible exact tangramref12_Of.mono _ _ _ _)
     | (with_reducible exact LeO.refl _)
     | (with_reducible exact LeO.none _)
     | (with_reducible refine LeO.ite ?_ ?_)
     | (with_reducible refine LeO.bind ?_ (fun _ => ?_))
     | exact tangramref05_Isolated.mono _ _ _
     | exact tangramref05_Of.mono _ _ _
     | exact tangramref12_Of.mono _ _ _ _
     | exact LeO.none _
     | refine LeO.ite ?_ ?_
     | refine LeO.bind ?_ (fun _ => ?_)
end Go.Proofs.Ytmikcfddipldnaa.GAll
namespace Go.Proofs.Ytmikcfddipldnaa.GAll
open Go.RowKit Go.Proofs.YtmikcfddipldnaaW.PrintWords Go.Proofs.YtmikcfddipldnaaW.PrintLast Go.Proofs.YtmikcfddipldnaaW.PrintMore
attribute [local go_sem] max2_int min2_int max_two min_two max_three min_three max_four min_four   -- for this text's walks alone
set_option linter.unusedVariables false
set_option linter.unusedSimpArgs false
def tangramref12_Flat.f (k : Nat) (a0_0 : Int) (l0_1 : List (S56)) (l1 : List (List Int)) : Option (Bool) := (tangramref12_Genus.f k a0_0 l0_1 l1).bind fun bt205 => (if bt205.2 = 0 then (some (bt205.1 == 0)) else (some false))
theorem tangramref12_Flat.mono : ∀ a0 a1 a2 k, LeO (tangramref12_Flat.f k a0 a1 a2) (tangramref12_Flat.f (k + 1) a0 a1 a2) := by
 intro a0 a1 a2 k
 unfold tangramref12_Flat.f
 repeat' first
     | (with_reducible exact tangramref12_Genus.mono _ _ _ _)
     | (with_reducible exact LeO.refl _)
     | (with_reducible exact LeO.none _)
     | (with_reducible refine LeO.ite ?_ ?_)
     | (with_reducible refine LeO.bind ?_ (fun _ => ?_))
     | exact tangramref12_Genus.mono _ _ _ _
     | exact LeO.none _
     | refine LeO.ite ?_ ?_
     | refine LeO.bind ?_ (fun _ => ?_)
end Go.Proofs.Ytmikcfddipldnaa.GAll
namespace Go.Proofs.Ytmikcfddipldnaa.Rot
open Go.RowKit Go.Proofs.YtmikcfddipldnaaW.PrintWords Go.Proofs.YtmikcfddipldnaaW.PrintLast Go.Proofs.YtmikcfddipldnaaW.PrintMore Go.Proofs.Ytmikcfddipldnaa.GAll Go.Proofs.Ytmikcfddipldnaa.Mem Go.Proofs.Ytmikcfddipldnaa.Ring Go.Proofs.Ytmikcfddipldnaa.Face
set_option linter.unusedVariables false
set_option linter.unusedSimpArgs false
section
variable {n : Nat} {l : List Ed} {r : List (List Int)}
theorem comps_ev (hg : PureV.Good (n : Int) l) : Ev (fun k => comps_Of.f k (n : Int) l) (ogOf n l, (parts n l : Int), 0) := by
 obtain ⟨b, h1, h2, h3⟩ := PureV.valid (n : Int) l
 rw [h3.2 hg] at h1
 unfold comps_Of.f
 exact Ev.bind h1 (Ev.congr (fun k => if_pos rfl) (Ev.congr (fun k => if_pos ⟨hg.1, hg.2.1⟩) (Ev.now _)))
theorem parts_le (hg : PureV.Good (n : Int) l) : parts n l ≤ n := by
 rw [parts_sets]
 have h := Sets.sets_le (parT n l l.length)
 have := (parT_part n l l.length).len
 omega
theorem IsMap.fitG (hm : IsMap n l r) : Cnt.fitB (ogOf n l) (ends l) (facesL (stOf l r)) (parts n l) = true := by
 obtain ⟨F, e, hF⟩ := hm.faces
 have hc := hm.comp
 have hl := hm.lists
 have hp := parts_le hm.good
 have hg := hm.good
 refine Cnt.fit_of.2 ⟨by have := hg.2.1; omega, by rw [hc.len]; have := hg.2.1; omega, by rw [ends_length]; exact hg.2.2.1, hl.1, hc.key, fun j hj => ?_, fun q hq => ?_⟩
 · rw [ends_length] at hj
   obtain ⟨⟨a, b, c⟩, _⟩ := hg.2.2.2 j hj
   rw [pe_ends hj, hc.len]
   simp only
   omega
 · rw [e, List.length_map] at hq
   have e2 : gl (facesL (stOf l r)) q = zN F[q] := by
     rw [e]
     unfold gl
     rw [List.getD_eq_getElem?_getD, List.getElem?_map, List.getElem?_eq_getElem hq]
     rfl
   rw [e2]
   have hL : F[q] ∈ F := List.getElem_mem hq
   have hr := hF.dec.ring _ hL
   generalize F[q] = L at hL hr
   cases L with
   | nil => exact absurd rfl hr.1
   | cons a t =>
     have := faces_mem hm hF hL a (List.mem_cons_self ..)
     refine ⟨by simp [zN], ?_⟩
     show 0 ≤ (a : Int) ∧ (a : Int) < _
     rw [ends_length]
     omega
def genus (n : Nat) (l : List Ed) (r : List (List Int)) : Int := Cnt.genusSum (ogOf n l) (ends l) (facesL (stOf l r)) (parts n l)
theorem IsMap.genus_eq (hm : IsMap n l r) : 2 * genus n l r = 2 * (parts n l : Int) - n + l.length - (facesL (stOf l r)).length - lone r := by
 obtain ⟨F, e, hF⟩ := hm.faces
 have := hm.comp.twice hm hF
 unfold genus
 rw [e, this, List.length_map]
theorem genus_ok (hm : IsMap n l r) (h : Ev (fun k => rot_Check.f k (n : Int) l r) (0, 0)) : Ev (fun k => faces_Genus.f k (n : Int) l r) (genus n l r, 0) := by
 unfold faces_Genus.f
 refine Ev.bind (of_ok hm h) (Ev.congr (fun k => if_pos rfl) (Ev.bind (comps_ev hm.good) (Ev.congr (fun k => ?_) (Ev.now _))))
 unfold faces_Genus.told
 simp only
 rw [Int.toNat_natCast]
 exact if_pos ⟨trivial, by omega, hm.fitG⟩
theorem genus_bad {v e : Int} {a : Int} (he : e ≠ 0) (h : Ev (fun k => rot_Check.f k a l r) (v, e)) : Ev (fun k => faces_Genus.f k a l r) (0, e) := by
 unfold faces_Genus.f
 exact Ev.bind (of_bad he h) (Ev.congr (fun k => if_neg he) (Ev.now _))
def MetB (n : Nat) (l : List Ed) (i : Nat) (M : List Bool) : Prop := M.length = n ∧ ∀ v, v < n → (gb M v = true ↔ 0 < cnt (frs l) (2 * i) v)
def loneTo (l : List Ed) (i : Nat) : Nat := (List.range i).countP fun (v : Nat) => cnt (frs l) (2 * l.length) (v : Int) == 0
end
end Go.Proofs.Ytmikcfddipldnaa.Rot
namespace Go.Proofs.Ytmikcfddipldnaa.Ring
set_option linter.unusedVariables false
set_option linter.unusedSimpArgs false
theorem ring_same {f g : Nat → Nat} {l : List Nat} (h : Ring f l) (k : Ring g l) : ∀ x ∈ l, f x = g x := by
 have e : l.map f = l.map g := h.2.trans k.2.symm
 exact List.map_inj_left.1 e
theorem Ring.back {f g t : Nat → Nat} {l : List Nat} (h : Ring f l) (hg : ∀ x ∈ l, g (t (f x)) = t x) : Ring g (l.reverse.map t) := by
 cases l with
 | nil => exact absurd rfl h.1
 | cons a x =>
   have h2 := ring_cons.1 h
   unfold Lead at h2
   have e1 : (a :: x.reverse) = ((a :: x).reverse).map f := by
     rw [List.map_reverse, h2]; simp
   have e2 : Ring g ((a :: x.reverse).map t) := by
     rw [List.map_cons, ring_cons]
     unfold Lead
     have e5 : (a :: x.reverse).map (fun y => g (t y)) = ((a :: x).reverse).map t := by
       rw [e1, List.map_map]
       exact List.map_congr_left fun y hy => hg y (List.mem_reverse.1 hy)
     rw [List.reverse_cons, List.map_append] at e5
     rw [← List.map_cons, List.map_map]
     exact e5
   have e3 : (a :: x).reverse.map t = x.reverse.map t ++ [t a] := by simp
   have e4 : (a :: x.reverse).map t = [t a] ++ x.reverse.map t := by simp
   rw [e4] at e2
   rw [e3]
   exact e2.turn
theorem twn_twn (x : Nat) : twn (twn x) = x := by unfold twn; split <;> split <;> omega
end Go.Proofs.Ytmikcfddipldnaa.Ring
namespace Go.Proofs.Ytmikcfddipldnaa.Rot
open Go.RowKit Go.Proofs.YtmikcfddipldnaaW.PrintWords Go.Proofs.YtmikcfddipldnaaW.PrintLast Go.Proofs.YtmikcfddipldnaaW.PrintMore Go.Proofs.Ytmikcfddipldnaa.GAll Go.Proofs.Ytmikcfddipldnaa.Mem Go.Proofs.Ytmikcfddipldnaa.Ring Go.Proofs.Ytmikcfddipldnaa.Face
set_option linter.unusedVariables false
set_option linter.unusedSimpArgs false
section
variable {n : Nat} {l : List Ed} {r : List (List Int)}
theorem IsMap.check (hm : IsMap n l r) (hs : Small r) : Ev (fun k => rot_Check.f k (n : Int) l r) (0, 0) := by
 obtain ⟨res, h1, _, h3, h4, _⟩ := both_check (n : Int) l r hs
 have h0 := h4.2 ⟨n, rfl, hm.good, hm.rot⟩
 rw [h3 h0] at h1
 exact h1
theorem IsMap.canon (hm : IsMap n l r) : IsMap n l (r.map turnl) := ⟨hm.good, hm.rot.canon⟩
theorem IsMap.mirror (hm : IsMap n l r) : IsMap n l ((r.map List.reverse).map turnl) := ⟨hm.good, hm.rot.reverse.canon⟩
theorem IsMap.at_row (hm : IsMap n l r) {h : Nat} (hh : h < 2 * l.length) : ∃ v, v < n ∧ h ∈ fN (gl r v) := by
 have hf := frs_range hm.good hh
 obtain ⟨v, hv⟩ := Int.eq_ofNat_of_zero_le hf.1
 exact ⟨v, by omega, (hm.row_at (by omega)).2 ⟨hh, hv⟩⟩
theorem fN_ne {row : List Int} {h : Nat} (hh : h ∈ fN row) : row ≠ [] := by rintro rfl; cases hh
theorem IsMap.canon_next (hm : IsMap n l r) {h : Nat} (hh : h < 2 * l.length) : nxf l (r.map turnl) h = nxf l r h := by
 obtain ⟨v, hv, hmem⟩ := hm.at_row hh
 have hlen := hm.rot.len
 have e : gl (r.map turnl) v = turnl (gl r v) := gl_map turnl (by omega)
 have h1 := hm.row_ring hv (fN_ne hmem)
 have hT := isTurn_turnl (gl r v)
 have hmem2 : h ∈ fN (turnl (gl r v)) := by
   unfold fN at hmem ⊢
   obtain ⟨x, hx, rfl⟩ := List.mem_map.1 hmem
   exact List.mem_map.2 ⟨x, (hT.mem x).1 hx, rfl⟩
 have h2 := hm.canon.row_ring hv (by rw [e]; exact fN_ne hmem2)
 rw [e] at h2
 obtain ⟨x, y, ex, ey⟩ := hT
 have h3 : Ring (nxf l r) (fN (turnl (gl r v))) := by
   rw [ey]
   rw [ex] at h1
   unfold fN at h1 ⊢
   rw [List.map_append] at h1 ⊢
   exact h1.turn
 exact ring_same h2 h3 h hmem2
theorem stOf_ext {r s : List (List Int)} (h : ∀ q, q < 2 * l.length → nxf l r q = nxf l s q) (hr : IsMap n l r) (hs : IsMap n l s) : stOf l r = stOf l s := by
 unfold stOf
 refine List.map_congr_left fun q hq => ?_
 rw [List.mem_range] at hq
 rw [hr.nxf_eq (twn_lt hq), hs.nxf_eq (twn_lt hq), h _ (twn_lt hq)]
theorem IsMap.canon_faces (hm : IsMap n l r) : facesL (stOf l (r.map turnl)) = facesL (stOf l r) := by
 rw [stOf_ext (fun q hq => hm.canon_next hq) hm.canon hm]
theorem IsMap.mirror_next (hm : IsMap n l r) {h : Nat} (hh : h < 2 * l.length) : nxf l ((r.map List.reverse).map turnl) (nxf l r h) = h := by
 have h1 := back_next (frs_in hm.good) hm.rot (nxOf_next hm.rot) (nxOf_next hm.mirror.rot) (q := h) (by rw [frs_length]; exact hh)
 unfold nxf
 rw [h1.2.2]
 rfl
theorem IsMap.mirror_faces (hm : IsMap n l r) {F G : List (List Nat)} (hF : Faces (stf l r) (2 * l.length) F) (hG : Faces (stf l ((r.map List.reverse).map turnl)) (2 * l.length) G) : (F.map List.length).Perm (G.map List.length) := by
 have hmem : ∀ L ∈ F, ∀ x ∈ L, x < 2 * l.length := fun L hL => faces_mem hm hF hL
 have hfl : ∀ K : List (List Nat), (K.map fun L => L.reverse.map twn).flatten.Perm (K.flatten.map twn) := by
   intro K
   induction K with
   | nil => exact List.Perm.refl _
   | cons L K ih =>
     rw [List.map_cons, List.flatten_cons, List.flatten_cons, List.map_append]
     exact ((List.reverse_perm L).map twn).append ih
 have hnd : ((List.range (2 * l.length)).map twn).Nodup := by
   rw [List.Nodup, List.pairwise_map]
   exact List.nodup_range.imp fun {a b} h e => h (by rw [← twn_twn a, ← twn_twn b, e])
 have hp : ((List.range (2 * l.length)).map twn).Perm (List.range (2 * l.length)) := by
   refine perm_of_same hnd List.nodup_range (fun x => ?_)
   rw [List.mem_map, List.mem_range]
   constructor
   · rintro ⟨y, hy, rfl⟩
     rw [List.mem_range] at hy
     exact twn_lt hy
   · intro hx
     exact ⟨twn x, by rw [List.mem_range]; exact twn_lt hx, twn_twn x⟩
 have hperm : (F.map fun L => L.reverse.map twn).flatten.Perm (List.range (2 * l.length)) := (hfl F).trans ((hF.perm.map twn).trans hp)
 have hdec : Dec (stf l ((r.map List.reverse).map turnl)) (F.map fun L => L.reverse.map twn) := by
   refine ⟨fun L hL => ?_, (hperm.nodup_iff).2 List.nodup_range⟩
   obtain ⟨K, hK, rfl⟩ := List.mem_map.1 hL
   refine (hF.dec.ring K hK).back (fun x hx => ?_)
   have hx2 := hmem K hK x hx
   have hs := hm.steps.inn x (by rw [stOf_length]; exact hx2)
   rw [stOf_length] at hs
   rw [stf_eq (twn_lt hs), twn_twn, stf_eq hx2, hm.mirror_next (twn_lt hx2)]
 have h1 := Dec.unique List.length (fun _ _ h => h.length_eq) _ G hdec hG.dec (hperm.trans hG.perm.symm)
 rw [List.map_map] at h1
 have e : F.map (List.length ∘ fun L => L.reverse.map twn) = F.map List.length := List.map_congr_left fun L _ => by simp
 rw [e] at h1
 exact h1
theorem lens_count (fs : List (List Int)) (M : Nat) : ∀ q, q ≤ fs.length → ∀ d, d ≤ M → gi (lensTo fs M q) d = ((fs.take q).countP fun L => L.length == d : Nat)
 | 0, _, d, hd => by
   unfold lensTo gi
   simp [List.getD_eq_getElem?_getD, List.getElem?_replicate, Nat.lt_succ_of_le hd]
 | q + 1, hq, d, hd => by
   have ih := lens_count fs M q (by omega)
   have e : fs.take (q + 1) = fs.take q ++ [gl fs q] := by
     rw [List.take_succ_eq_append_getElem (by omega)]
     unfold gl
     rw [List.getD_eq_getElem?_getD, List.getElem?_eq_getElem (by omega)]
     rfl
   rw [e, List.countP_append]
   unfold lensTo
   by_cases c : (gl fs q).length ≤ M
   · rw [if_pos c, gi_set, lensTo_length, ih _ c, ih d hd]
     by_cases g : (gl fs q).length = d
     · rw [if_pos ⟨g, by omega⟩, g]
       simp [g]
     · rw [if_neg (fun x => g x.1)]
       simp [g]
   · rw [if_neg c, ih d hd]
     have g : (gl fs q).length ≠ d := by omega
     simp [g]
theorem lens_eq {F G : List (List Nat)} (h : (F.map List.length).Perm (G.map List.length)) (M : Nat) : lensTo (F.map zN) M (F.map zN).length = lensTo (G.map zN) M (G.map zN).length := by
 refine List.ext_getElem (by rw [lensTo_length, lensTo_length]) (fun d h1 h2 => ?_)
 rw [lensTo_length] at h1
 rw [← gi_get0, ← gi_get0, lens_count _ _ _ (Nat.le_refl _) d (by omega), lens_count _ _ _ (Nat.le_refl _) d (by omega), List.take_length, List.take_length]
 have key : ∀ K : List (List Nat), ((K.map zN).countP fun L => L.length == d) = (K.map List.length).countP (· == d) := fun K => by
   rw [List.countP_map, List.countP_map]
   refine List.countP_congr fun L _ => ?_
   simp [zN]
 rw [key, key, h.countP_eq]
theorem turnl_empty (row : List Int) : (turnl row.reverse).isEmpty = row.isEmpty := by
 have h := turnl_length row.reverse
 rw [List.length_reverse] at h
 cases row with
 | nil => rfl
 | cons a t =>
   cases e : turnl (a :: t).reverse with
   | nil => rw [e] at h; simp at h
   | cons => rfl
theorem lone_mirror (r : List (List Int)) : lone ((r.map List.reverse).map turnl) = lone r := by
 unfold lone
 rw [List.map_map, List.countP_map]
 refine List.countP_congr fun row _ => ?_
 show (turnl row.reverse).isEmpty = true ↔ _
 rw [turnl_empty]
theorem IsMap.mirror_genus (hm : IsMap n l r) : genus n l ((r.map List.reverse).map turnl) = genus n l r := by
 obtain ⟨F, e, hF⟩ := hm.faces
 obtain ⟨G, e2, hG⟩ := hm.mirror.faces
 have h1 := hm.genus_eq
 have h2 := hm.mirror.genus_eq
 have h3 := (hm.mirror_faces hF hG).length_eq
 rw [List.length_map, List.length_map] at h3
 rw [e, List.length_map] at h1
 rw [e2, List.length_map, lone_mirror] at h2
 omega
end
end Go.Proofs.Ytmikcfddipldnaa.Rot
namespace Go.Proofs.Ytmikcfddipldnaa.Open
open Go.RowKit Go.Proofs.YtmikcfddipldnaaW.PrintWords Go.Proofs.YtmikcfddipldnaaW.PrintLast Go.Proofs.YtmikcfddipldnaaW.PrintMore Go.ChangeShapes Go.WideShapes Go.Deep
set_option linter.unusedVariables false
set_option linter.unusedSimpArgs false
def I64 (n : Int) : Prop := -9223372036854775808 ≤ n ∧ n ≤ 9223372036854775807
def Opens {α : Type} (P : Program) (t : TypeId) (d : Kd α) (good : α → Prop) : Prop :=
 ∀ {H : Type} (enc : TypeId × Value → H) (w : World) (fuel : Nat) (cs : List Value) (x : DataW H × List MemPlace),
   DataW.trod enc P w 0 (fun _ => true) true fuel t cs = some x → (x.1.weights P t).all (· ≤ reachBytes) = true → ∃ v, d.K w v cs ∧ good v
section
variable {P : Program} {α β : Type}
theorem opens_int {t : TypeId} (ht : P.underlying t = some (.int .i64)) : Opens P t (Kd.int .i64) I64 := by
 intro H enc w fuel cs x h _
 obtain ⟨n, rfl, _, hw⟩ := DataW.trod_int ht h
 refine ⟨n, rfl, ?_⟩
 have hmin : IntKind.i64.min = -9223372036854775808 := rfl
 have hmax : IntKind.i64.max = 9223372036854775807 := rfl
 simp only [Lit.wf, Bool.and_eq_true, decide_eq_true_eq] at hw
 unfold I64; omega
theorem weightsAll_mem {H : Type} {e : TypeId} {l : List (DataW H)} (h : (DataW.weightsAll P e l).all (· ≤ reachBytes) = true) {d : DataW H} (hd : d ∈ l) : (d.weights P e).all (· ≤ reachBytes) = true := by
 induction l with
 | nil => cases hd
 | cons a l ih =>
   unfold DataW.weightsAll at h
   rw [List.all_append, Bool.and_eq_true] at h
   rcases List.mem_cons.1 hd with rfl | hd
   · exact h.1
   · exact ih h.2 hd
theorem opens_slice {t e : TypeId} {d : Kd α} {good : α → Prop} {B : Nat} (ht : P.underlying t = some (.slice e)) (hc : P.cellsOf e = d.sz) (hB : P.bytesOf e = B) (ho : Opens P e d good) (dflt : α) :
   Opens P t (Kd.slice e d) (fun xs => xs.length * B ≤ 140737488351232 ∧ ∀ x ∈ xs, good x) := by
 intro H enc w fuel cs x h hwt
 rcases open_slice ht h with ⟨rfl, rfl⟩ | ⟨a, len, cap, m, n, D, Pl, rfl, hb, hl, hm, hmm, rfl, hx⟩
 · exact ⟨[], ⟨none, 0, rfl, Nat.le_refl _, rfl, by simp, fun h => absurd h (by simp)⟩, by simp, by simp⟩
 · simp only [if_true] at hmm
   subst hmm
   unfold DataW.weights at hwt
   rw [ht] at hwt
   simp only [List.all_cons, List.all_append, Bool.and_eq_true, decide_eq_true_eq, List.length_map, List.length_range, hB] at hwt
   obtain ⟨hw1, hw2, _⟩ := hwt
   have each : ∀ i, i < len → ∃ v : α × List Value, v.2.length = d.sz ∧ d.K w v.1 v.2 ∧ good v.1 ∧ ∀ k u, v.2[k]? = some u → w.cell? (a.add (i * d.sz + k)) = some u := by
     intro i hi
     obtain ⟨cs', h1, h2⟩ := hx i (by omega)
     rw [hc] at h1
     obtain ⟨_, hlen, hcell⟩ := World.cells?_some h1
     obtain ⟨v, hv, hg⟩ := ho enc w n cs' _ h2 (weightsAll_mem hw2 (List.mem_map.2 ⟨i, List.mem_range.2 hi, rfl⟩))
     refine ⟨(v, cs'), hlen, hv, hg, fun k u hk => ?_⟩
     have hk2 : k < d.sz := by
       have hk3 : k < cs'.length := (List.getElem?_eq_some_iff.1 hk).1
       omega
     have := hcell k hk2
     rw [Go.Deep.add_add] at this
     rw [this]; exact hk
   haveI : Inhabited (α × List Value) := ⟨(dflt, [])⟩
   obtain ⟨q, hq⟩ := choose_lt each
   have hlen : ((List.range len).map fun i => (q i).1).length = len := by simp
   have hget : ∀ j p, ((List.range len).map fun i => (q i).1)[j]? = some p → j < len ∧ p = (q j).1 := by
     intro j p hj
     rw [List.getElem?_map] at hj
     by_cases hjl : j < len
     · rw [List.getElem?_range hjl] at hj
       exact ⟨hjl, by simpa using hj.symm⟩
     · rw [List.getElem?_eq_none (by simp; omega)] at hj; simp at hj
   refine ⟨(List.range len).map fun i => (q i).1, ⟨some a, m, by rw [hlen], by rw [hlen]; exact hl, by rw [hlen], ?_, fun _ => ⟨a, rfl, fun j p hj => ?_⟩⟩, ?_, ?_⟩
   · rw [hlen]; unfold maxLen at hm; omega
   · obtain ⟨hjl, rfl⟩ := hget j p hj
     exact ⟨(q j).2, (hq j hjl).1, (hq j hjl).2.1, (hq j hjl).2.2.2⟩
   · rw [hlen]
     have h5 : len * B ≤ (len + (m - len)) * B := Nat.mul_le_mul_right _ (by omega)
     have h6 : reachBytes = 140737488351232 := rfl
     omega
   · intro v hv
     obtain ⟨i, hi, rfl⟩ := List.mem_map.1 hv
     exact (hq i (List.mem_range.1 hi)).2.2.1
theorem opens_two {t : TypeId} {f0 f1 : Field} {a : Kd α} {b : Kd β} {ga : α → Prop} {gb : β → Prop} (ht : P.underlying t = some (.struct #[f0, f1])) (h0 : Opens P f0.type a ga) (h1 : Opens P f1.type b gb)
   (o0 : f0.offset = 0) (o1 : f1.offset = a.sz) (c0 : P.cellsOf f0.type = a.sz) (c1 : P.cellsOf f1.type = b.sz) (ct : P.cellsOf t = a.sz + b.sz) : Opens P t (Kd.pair a b) (fun x => ga x.1 ∧ gb x.2) := by
 intro H enc w fuel cs x h hwt
 obtain ⟨xs, n, _, rfl, hcl, hxl, hf⟩ := DataW.trod_struct ht h
 match xs, hxl with
 | [y0, y1], _ =>
   have g0 := hf 0 f0 rfl
   have g1 := hf 1 f1 rfl
   rw [o0, c0] at g0
   rw [o1, c1] at g1
   unfold DataW.weights at hwt
   rw [ht] at hwt
   simp only [List.map_cons, List.map_nil, DataW.weightsEach, List.all_append, Bool.and_eq_true] at hwt
   obtain ⟨hw0, hw1, _⟩ := hwt
   rw [List.drop_zero] at g0
   obtain ⟨v0, k0, q0⟩ := h0 enc w n _ y0 g0 hw0
   obtain ⟨v1, k1, q1⟩ := h1 enc w n _ y1 g1 hw1
   refine ⟨(v0, v1), ⟨_, _, ?_, k0, k1⟩, q0, q1⟩
   rw [List.take_of_length_le (l := cs.drop a.sz) (by rw [List.length_drop]; omega), List.take_append_drop]
theorem opens_iso {t : TypeId} {d : Kd α} {good : α → Prop} {f : β → α} (g : α → β) (hg : ∀ x, f (g x) = x) (h : Opens P t d good) : Opens P t (Kd.iso d f) (fun y => good (f y)) := by
 intro H enc w fuel cs x hx hw
 obtain ⟨v, k, q⟩ := h enc w fuel cs x hx hw
 exact ⟨g v, by show d.K w (f (g v)) cs; rw [hg]; exact k, by show good (f (g v)); rw [hg]; exact q⟩
theorem open_arg {H : Type} {enc : TypeId × Value → H} {w : World} {t : TypeId} {d : Kd α} {good : α → Prop} {v : Value} {dd : DataW H} {ps : List MemPlace} (ho : Opens P t d good) (h : DataW.Trod enc P w 0 (fun _ => true) true t v dd ps)
   (hw : (dd.weights P t).all (· ≤ reachBytes) = true) : ∃ x, d.K w x v.cells.toList ∧ good x := by
 obtain ⟨fuel, hf⟩ := h
 exact ho enc w fuel _ _ hf hw
theorem weight_at {H : Type} {ts : List TypeId} {ds : List (DataW H)} (h : (DataW.weightsEach P ts ds).all (· ≤ reachBytes) = true) : ∀ {j : Nat} {t : TypeId} {d : DataW H}, ts[j]? = some t → ds[j]? = some d → (d.weights P t).all (· ≤ reachBytes) = true := by
 induction ts generalizing ds with
 | nil => intro j t d ht; simp at ht
 | cons a ts ih =>
   cases ds with
   | nil => intro j t d _ hd; simp at hd
   | cons b ds =>
     unfold DataW.weightsEach at h
     rw [List.all_append, Bool.and_eq_true] at h
     intro j t d ht hd
     cases j with
     | zero =>
       obtain rfl : a = t := by simpa using ht
       obtain rfl : b = d := by simpa using hd
       exact h.1
     | succ j => exact ih h.2 (by simpa using ht) (by simpa using hd)
theorem of_slice {w : World} {e : Nat} {d : Kd α} {xs : List α} {A : Option Addr} {n c : Nat} (h : (Kd.slice e d).K w xs [.slice A n c]) : n = xs.length ∧ xs.length ≤ c ∧ d.C w A xs.length xs := by
 obtain ⟨A', c', he, hl, hc⟩ := h
 simp only [List.cons.injEq, Value.slice.injEq, and_true] at he
 obtain ⟨rfl, rfl, rfl⟩ := he
 exact ⟨rfl, hl, hc⟩
end
end Go.Proofs.Ytmikcfddipldnaa.Open
namespace Go.Proofs.Ytmikcfddipldnaa.GAll
open Go.RowKit Go.Proofs.YtmikcfddipldnaaW.PrintWords Go.Proofs.YtmikcfddipldnaaW.PrintLast Go.Proofs.YtmikcfddipldnaaW.PrintMore
attribute [local go_sem] max2_int min2_int max_two min_two max_three min_three max_four min_four   -- for this text's walks alone
set_option linter.unusedVariables false
set_option linter.unusedSimpArgs false
def tangramlaw12_triangle.f  : Option (Int × (List (S56)) × (List (List Int))) := some (3, (([(⟨0, 1⟩ : S56), (⟨0, 2⟩ : S56), (⟨1, 2⟩ : S56)] : List (S56))), (([(([0, 2] : List Int)), (([1, 4] : List Int)), (([3, 5] : List Int))] : List (List Int))))
set_option maxHeartbeats 8000000 in
set_option maxRecDepth 100000 in
theorem tangramlaw12_triangle.calls  (r1 : Int) (r2 : List (S56)) (r3 : List (List Int)) (w : World) (h : tangramlaw12_triangle.f  = some (r1, r2, r3)) :
   Calls Try.prog 30 #[] w fun e w' => ∃ v1_ v2_ : Value, e = .returned (.tuple #[.agg #[.int .i64 r1, v1_], v2_]) ∧ Kd.R k56 56 w' w.heap.size (fun k_ => (w.heap.size ≤ k_)) v1_ r2 ∧ Kd.N (Kd.slice 3 (Kd.int .i64)) 36 w' w.heap.size (fun k_ => (w.heap.size ≤ k_) ∧ some k_ ≠ (v1_ : Value).ownBlock) v2_ r3 ∧ Below w.heap.size w w' := by
 have hu24 := Try.underlying24
 have hu56 := Try.underlying56
 have HB := Aside0.mk (Below.refl w.heap.size w)
 have H : (some (3, (([(⟨0, 1⟩ : S56), (⟨0, 2⟩ : S56), (⟨1, 2⟩ : S56)] : List (S56))), (([(([0, 2] : List Int)), (([1, 4] : List Int)), (([3, 5] : List Int))] : List (List Int))))) = some (r1, r2, r3) := h
 clear h
 obtain ⟨y138, hy138⟩ : ∃ y_ : List (S56), y_ = (([(⟨0, 1⟩ : S56), (⟨0, 2⟩ : S56), (⟨1, 2⟩ : S56)] : List (S56))) := ⟨_, rfl⟩
 replace H : (some (3, y138, (([(([0, 2] : List Int)), (([1, 4] : List Int)), (([3, 5] : List Int))] : List (List Int))))) = some (r1, r2, r3) := by first | (rw [hy138]; with_reducible exact H) | (have H2_ := (Option.bind_some _ _).symm.trans H; rw [hy138]; with_reducible exact H2_) | (have H2_ := (Option.bind_some _ _).symm.trans H; with_reducible exact H2_) | with_reducible exact H | (rw [hy138]; exact H) | exact H
 have Ny138 := Aside0.mk hy138
 clear hy138
 obtain ⟨y141, hy141⟩ : ∃ y_ : List Int, y_ = (([0, 2] : List Int)) := ⟨_, rfl⟩
 replace H : (some (3, y138, (([y141, (([1, 4] : List Int)), (([3, 5] : List Int))] : List (List Int))))) = some (r1, r2, r3) := by first | (rw [hy141]; with_reducible exact H) | (have H2_ := (Option.bind_some _ _).symm.trans H; rw [hy141]; with_reducible exact H2_) | (have H2_ := (Option.bind_some _ _).symm.trans H; with_reducible exact H2_) | with_reducible exact H | (rw [hy141]; exact H) | exact H
 have Ny141 := Aside0.mk hy141
 clear hy141
 obtain ⟨y144, hy144⟩ : ∃ y_ : List Int, y_ = (([1, 4] : List Int)) := ⟨_, rfl⟩
 replace H : (some (3, y138, (([y141, y144, (([3, 5] : List Int))] : List (List Int))))) = some (r1, r2, r3) := by first | (rw [hy144]; with_reducible exact H) | (have H2_ := (Option.bind_some _ _).symm.trans H; rw [hy144]; with_reducible exact H2_) | (have H2_ := (Option.bind_some _ _).symm.trans H; with_reducible exact H2_) | with_reducible exact H | (rw [hy144]; exact H) | exact H
 have Ny144 := Aside0.mk hy144
 clear hy144
 obtain ⟨y147, hy147⟩ : ∃ y_ : List Int, y_ = (([3, 5] : List Int)) := ⟨_, rfl⟩
 replace H : (some (3, y138, (([y141, y144, y147] : List (List Int))))) = some (r1, r2, r3) := by first | (rw [hy147]; with_reducible exact H) | (have H2_ := (Option.bind_some _ _).symm.trans H; rw [hy147]; with_reducible exact H2_) | (have H2_ := (Option.bind_some _ _).symm.trans H; with_reducible exact H2_) | with_reducible exact H | (rw [hy147]; exact H) | exact H
 have Ny147 := Aside0.mk hy147
 clear hy147
 obtain ⟨y150, hy150⟩ : ∃ y_ : List (List Int), y_ = (([y141, y144, y147] : List (List Int))) := ⟨_, rfl⟩
 replace H : (some (3, y138, y150)) = some (r1, r2, r3) := by first | (rw [hy150]; with_reducible exact H) | (have H2_ := (Option.bind_some _ _).symm.trans H; rw [hy150]; with_reducible exact H2_) | (have H2_ := (Option.bind_some _ _).symm.trans H; with_reducible exact H2_) | with_reducible exact H | (rw [hy150]; exact H) | exact H
 have Ny150 := Aside0.mk hy150
 clear hy150
 simp only [Option.some.injEq, Prod.mk.injEq] at H
 obtain ⟨rfl, rfl, rfl⟩ := H
 go_enter Try.func30, Try.ntmps30
 go_wp2_with (first | ((with_reducible refine gate_dst (N := 0) rfl ?_); refine box_event ?hg (N := 0) ?hd (cs := #[.int .i64 0, .slice none 0 0]) (t := 24) ?hr ?_; (case hd => rfl); (case hg => rfl); (case hr => first | (go_simp; done) | (go_simp; rfl)); intro gb137 hg w1 hbox hb; have n0_ := Aside0.mk (below_step (by repeat (first | (with_reducible first | exact HB.out | apply below_alloc | apply pw_below_drewN | apply below_drew1) | exact HB.out)) hb); have n1_ := Aside0.mk (hbox); have n2_ := Aside0.mk ((by rw [hg]; exact (below_size (by repeat (first | (with_reducible first | exact HB.out | apply below_alloc | apply pw_below_drewN | apply below_drew1) | exact HB.out))) : w.heap.size ≤ gb137)); have n3_ := Aside0.mk ((by rw [hg]; exact (below_size (by repeat (first | (with_reducible first | exact HB.out | apply below_alloc | apply pw_below_drewN | apply below_drew1) | exact HB.out))) : w.heap.size ≤ gb137)); clear HB; have HB := n0_; have BK137 := n1_; have GW137 := n2_; have GE137 := n3_; clear n0_ n1_ n2_ n3_; clear hb hbox hg) | ((with_reducible refine gate_dst (N := 5) rfl ?_); refine Kd.R_lit k56 _ 56 ?hg (N := 5) ?hd (xs := ([(⟨0, 1⟩ : S56), (⟨0, 2⟩ : S56), (⟨1, 2⟩ : S56)] : List (S56))) (inner := [.int .i64 0, .int .i64 1, .int .i64 0, .int .i64 2, .int .i64 1, .int .i64 2]) (ok := fun _ => True) (okp := fun _ => True) ?hr ?hp (fun _ hk => hk) trivial (Below.refl _ _) (Nat.le_refl _) (by simp) ?_; (case hd => rfl); (case hg => rfl); (case hr => first | (go_simp; done) | (go_simp; rfl)); (case hp => exact (Reps.c2 (show Kd.M k56 _ _ _ (⟨0, 1⟩ : S56) [.int .i64 0, .int .i64 1] from (k56_mkM _ _ _ (⟨0, 1⟩ : S56) )) (Reps.c2 (show Kd.M k56 _ _ _ (⟨0, 2⟩ : S56) [.int .i64 0, .int .i64 2] from (k56_mkM _ _ _ (⟨0, 2⟩ : S56) )) (Reps.c2 (show Kd.M k56 _ _ _ (⟨1, 2⟩ : S56) [.int .i64 1, .int .i64 2] from (k56_mkM _ _ _ (⟨1, 2⟩ : S56) )) (Reps.none _ _))))); intro v139 w2 ho3 hb hg_ hnew_; clear hg_ hnew_; (first | rw [← Ny138.out] at ho3 | (simp only [Int.reduceToNat] at ho3; rw [← Ny138.out] at ho3)); have n0_ := Aside0.mk (Kd.R_lower (Kd.R_newM (M := fun k_ => (w.heap.size ≤ k_)) ho3 (below_size (by repeat (first | (with_reducible first | exact HB.out | apply below_alloc | apply pw_below_drewN | apply below_drew1 | refine below_set ?_ GE137.out) | exact HB.out))) (fun k_ h_ => h_)) (below_size (by repeat (first | (with_reducible first | exact HB.out | apply below_alloc | apply pw_below_drewN | apply below_drew1 | refine below_set ?_ GE137.out) | exact HB.out)))); have n1_ := Aside0.mk (blk_below (g := gb137) (o := .cells #[.int .i64 0, .slice none 0 0] 24 (0, 0)) (by (with_reducible repeat (first | refine blk_drewN ?_ _ | refine blk_drew ?_ | refine blk_alloc ?_ _)); exact BK137.out) hb); have n2_ := Aside0.mk (below_step (by repeat (first | (with_reducible first | exact HB.out | apply below_alloc | apply pw_below_drewN | apply below_drew1 | refine below_set ?_ GE137.out) | exact HB.out)) hb); clear BK137; clear HB; have HO140 := n0_; have BK137 := n1_; have HB := n2_; clear n0_ n1_ n2_; clear hb ho3; obtain ⟨Ao4, co4, eo4⟩ := Kd.R_slice HO140.out; subst eo4) | ((with_reducible refine gate_dst (N := 7) rfl ?_); refine Kd.R_lit (Kd.int .i64) _ 3 ?hg (N := 7) ?hd (xs := ([0, 2] : List Int)) (inner := [.int .i64 0, .int .i64 2]) (ok := fun _ => True) (okp := fun _ => True) ?hr ?hp (fun _ hk => hk) trivial (Below.refl _ _) (Nat.le_refl _) (by simp) ?_; (case hd => rfl); (case hg => rfl); (case hr => first | (go_simp; done) | (go_simp; rfl)); (case hp => exact (Reps.one (show Kd.M (Kd.int .i64) _ _ _ 0 [.int .i64 0] from rfl) (Reps.one (show Kd.M (Kd.int .i64) _ _ _ 2 [.int .i64 2] from rfl) (Reps.none _ _)))); intro v142 w5 ho6 hb hg_ hnew_; clear hg_ hnew_; (first | rw [← Ny141.out] at ho6 | (simp only [Int.reduceToNat] at ho6; rw [← Ny141.out] at ho6)); have n0_ := Aside0.mk (Kd.R_below (by (with_reducible repeat (first | apply Kd.R_alloc | apply Kd.R_drewN | apply Kd.R_drew)); exact HO140.out) hb); have n1_ := Aside0.mk (Kd.R_lower (Kd.R_newM (M := fun k_ => (w.heap.size ≤ k_)) ho6 (below_size (by repeat (first | (with_reducible first | exact HB.out | apply below_alloc | apply pw_below_drewN | apply below_drew1 | refine below_set ?_ GE137.out) | exact HB.out))) (fun k_ h_ => h_)) (below_size (by repeat (first | (with_reducible first | exact HB.out | apply below_alloc | apply pw_below_drewN | apply below_drew1 | refine below_set ?_ GE137.out) | exact HB.out)))); have n2_ := Aside0.mk (blk_below (g := gb137) (o := .cells #[.int .i64 0, .slice none 0 0] 24 (0, 0)) (by (with_reducible repeat (first | refine blk_drewN ?_ _ | refine blk_drew ?_ | refine blk_alloc ?_ _)); exact BK137.out) hb); have n3_ := Aside0.mk (below_step (by repeat (first | (with_reducible first | exact HB.out | apply below_alloc | apply pw_below_drewN | apply below_drew1 | refine below_set ?_ GE137.out) | exact HB.out)) hb); clear HO140; clear BK137; clear HB; have HO140 := n0_; have HO143 := n1_; have BK137 := n2_; have HB := n3_; clear n0_ n1_ n2_ n3_; clear hb ho6) | ((with_reducible refine gate_dst (N := 8) rfl ?_); refine Kd.R_lit (Kd.int .i64) _ 3 ?hg (N := 8) ?hd (xs := ([1, 4] : List Int)) (inner := [.int .i64 1, .int .i64 4]) (ok := fun _ => True) (okp := fun _ => True) ?hr ?hp (fun _ hk => hk) trivial (Below.refl _ _) (Nat.le_refl _) (by simp) ?_; (case hd => rfl); (case hg => rfl); (case hr => first | (go_simp; done) | (go_simp; rfl)); (case hp => exact (Reps.one (show Kd.M (Kd.int .i64) _ _ _ 1 [.int .i64 1] from rfl) (Reps.one (show Kd.M (Kd.int .i64) _ _ _ 4 [.int .i64 4] from rfl) (Reps.none _ _)))); intro v145 w7 ho8 hb hg_ hnew_; clear hg_ hnew_; (first | rw [← Ny144.out] at ho8 | (simp only [Int.reduceToNat] at ho8; rw [← Ny144.out] at ho8)); have n0_ := Aside0.mk (Kd.R_below (by (with_reducible repeat (first | apply Kd.R_alloc | apply Kd.R_drewN | apply Kd.R_drew)); exact HO140.out) hb); have n1_ := Aside0.mk (Kd.R_elder' (by (with_reducible repeat (first | apply Kd.R_alloc | apply Kd.R_drewN | apply Kd.R_drew)); exact HO143.out) (Kd.R_base ho8) hb); have n2_ := Aside0.mk (Kd.R_lower (Kd.R_new' (Kd.R_newM (M := fun k_ => (w.heap.size ≤ k_)) ho8 (below_size (by repeat (first | (with_reducible first | exact HB.out | apply below_alloc | apply pw_below_drewN | apply below_drew1 | refine below_set ?_ GE137.out) | exact HB.out))) (fun k_ h_ => h_)) (Kd.R_lt (by (with_reducible repeat (first | apply Kd.R_alloc | apply Kd.R_drewN | apply Kd.R_drew)); exact HO143.out))) (below_size (by repeat (first | (with_reducible first | exact HB.out | apply below_alloc | apply pw_below_drewN | apply below_drew1 | refine below_set ?_ GE137.out) | exact HB.out)))); have n3_ := Aside0.mk (blk_below (g := gb137) (o := .cells #[.int .i64 0, .slice none 0 0] 24 (0, 0)) (by (with_reducible repeat (first | refine blk_drewN ?_ _ | refine blk_drew ?_ | refine blk_alloc ?_ _)); exact BK137.out) hb); have n4_ := Aside0.mk (below_step (by repeat (first | (with_reducible first | exact HB.out | apply below_alloc | apply pw_below_drewN | apply below_drew1 | refine below_set ?_ GE137.out) | exact HB.out)) hb); clear HO140; clear HO143; clear BK137; clear HB; have HO140 := n0_; have HO143 := n1_; have HO146 := n2_; have BK137 := n3_; have HB := n4_; clear n0_ n1_ n2_ n3_ n4_; clear hb ho8) | ((with_reducible refine gate_dst (N := 9) rfl ?_); refine Kd.R_lit (Kd.int .i64) _ 3 ?hg (N := 9) ?hd (xs := ([3, 5] : List Int)) (inner := [.int .i64 3, .int .i64 5]) (ok := fun _ => True) (okp := fun _ => True) ?hr ?hp (fun _ hk => hk) trivial (Below.refl _ _) (Nat.le_refl _) (by simp) ?_; (case hd => rfl); (case hg => rfl); (case hr => first | (go_simp; done) | (go_simp; rfl)); (case hp => exact (Reps.one (show Kd.M (Kd.int .i64) _ _ _ 3 [.int .i64 3] from rfl) (Reps.one (show Kd.M (Kd.int .i64) _ _ _ 5 [.int .i64 5] from rfl) (Reps.none _ _)))); intro v148 w9 ho10 hb hg_ hnew_; clear hg_ hnew_; (first | rw [← Ny147.out] at ho10 | (simp only [Int.reduceToNat] at ho10; rw [← Ny147.out] at ho10)); have n0_ := Aside0.mk (Kd.R_below (by (with_reducible repeat (first | apply Kd.R_alloc | apply Kd.R_drewN | apply Kd.R_drew)); exact HO140.out) hb); have n1_ := Aside0.mk (Kd.R_elder' (by (with_reducible repeat (first | apply Kd.R_alloc | apply Kd.R_drewN | apply Kd.R_drew)); exact HO143.out) (Kd.R_base ho10) hb); have n2_ := Aside0.mk (Kd.R_elder' (by (with_reducible repeat (first | apply Kd.R_alloc | apply Kd.R_drewN | apply Kd.R_drew)); exact HO146.out) (Kd.R_base ho10) hb); have n3_ := Aside0.mk (Kd.R_lower (Kd.R_new' (Kd.R_new' (Kd.R_newM (M := fun k_ => (w.heap.size ≤ k_)) ho10 (below_size (by repeat (first | (with_reducible first | exact HB.out | apply below_alloc | apply pw_below_drewN | apply below_drew1 | refine below_set ?_ GE137.out) | exact HB.out))) (fun k_ h_ => h_)) (Kd.R_lt (by (with_reducible repeat (first | apply Kd.R_alloc | apply Kd.R_drewN | apply Kd.R_drew)); exact HO143.out))) (Kd.R_lt (by (with_reducible repeat (first | apply Kd.R_alloc | apply Kd.R_drewN | apply Kd.R_drew)); exact HO146.out))) (below_size (by repeat (first | (with_reducible first | exact HB.out | apply below_alloc | apply pw_below_drewN | apply below_drew1 | refine below_set ?_ GE137.out) | exact HB.out)))); have n4_ := Aside0.mk (blk_below (g := gb137) (o := .cells #[.int .i64 0, .slice none 0 0] 24 (0, 0)) (by (with_reducible repeat (first | refine blk_drewN ?_ _ | refine blk_drew ?_ | refine blk_alloc ?_ _)); exact BK137.out) hb); have n5_ := Aside0.mk (below_step (by repeat (first | (with_reducible first | exact HB.out | apply below_alloc | apply pw_below_drewN | apply below_drew1 | refine below_set ?_ GE137.out) | exact HB.out)) hb); clear HO140; clear HO143; clear HO146; clear BK137; clear HB; have HO140 := n0_; have HO143 := n1_; have HO146 := n2_; have HO149 := n3_; have BK137 := n4_; have HB := n5_; clear n0_ n1_ n2_ n3_ n4_ n5_; clear hb ho10; obtain ⟨Ao11, co11, eo11⟩ := Kd.R_slice HO143.out; subst eo11; obtain ⟨Ao12, co12, eo12⟩ := Kd.R_slice HO146.out; subst eo12; obtain ⟨Ao13, co13, eo13⟩ := Kd.R_slice HO149.out; subst eo13) | ((with_reducible refine gate_dst (N := 10) rfl ?_); refine Kd.N_lit (Kd.slice 3 (Kd.int .i64)) _ 36 ?hg (N' := 10) ?hd (xs := ([y141, y144, y147] : List (List Int))) (inner := [.slice Ao11 y141.length co11, .slice Ao12 y144.length co12, .slice Ao13 y147.length co13]) (ok := (fun k_ => (w.heap.size ≤ k_) ∧ some k_ ≠ (.slice Ao4 y138.length co4 : Value).ownBlock ∧ k_ ≠ gb137)) (okp := (fun k_ => (w.heap.size ≤ k_) ∧ some k_ ≠ (.slice Ao4 y138.length co4 : Value).ownBlock ∧ k_ ≠ gb137)) ?hr ?hp (fun _ hk => hk) ((show ∀ k_, w9.heap.size ≤ k_ → (fun k_ => (w.heap.size ≤ k_) ∧ some k_ ≠ (.slice Ao4 y138.length co4 : Value).ownBlock ∧ k_ ≠ gb137) k_ from fun k_ hk => ⟨(Nat.le_trans (below_size (by repeat (first | (with_reducible first | exact HB.out | apply below_alloc | apply pw_below_drewN | apply below_drew1 | refine below_set ?_ GE137.out) | exact HB.out))) hk), Kd.fresh' (Kd.R_lt (by (with_reducible repeat (first | apply Kd.R_alloc | apply Kd.R_drewN | apply Kd.R_drew)); exact HO140.out)) k_ hk, Kd.freshB (g := gb137) (o := .cells #[.int .i64 0, .slice none 0 0] 24 (0, 0)) (by (with_reducible repeat (first | refine blk_drewN ?_ _ | refine blk_drew ?_ | refine blk_alloc ?_ _)); exact BK137.out) k_ hk⟩) _ (Nat.le_refl _)) (Below.refl _ _) (Nat.le_refl _) (by simp) ?_; (case hd => rfl); (case hg => rfl); (case hr => first | (go_simp; done) | (go_simp; rfl)); (case hp => exact (Reps.one (show Kd.FK (Kd.slice 3 (Kd.int .i64)) _ _ y141 [.slice Ao11 y141.length co11] from (Kd.FK_slice_mk (Kd.R_reads' (Kd.R_mono (ok' := (fun k_ => (w.heap.size ≤ k_) ∧ some k_ ≠ (.slice Ao4 y138.length co4 : Value).ownBlock ∧ k_ ≠ gb137)) (Kd.R_types (Kd.R_apart' (HO143.out) (Kd.R_typed HO140.out) (by decide)) BK137.out (by decide)) (fun k_ hk => ⟨hk.1.1.1.1.1, ⟨hk.1.2, hk.2⟩⟩))).2.1 (Kd.R_F (Kd.R_mono (ok' := (fun k_ => (w.heap.size ≤ k_) ∧ some k_ ≠ (.slice Ao4 y138.length co4 : Value).ownBlock ∧ k_ ≠ gb137)) (Kd.R_types (Kd.R_apart' (HO143.out) (Kd.R_typed HO140.out) (by decide)) BK137.out (by decide)) (fun k_ hk => ⟨hk.1.1.1.1.1, ⟨hk.1.2, hk.2⟩⟩))))) (Reps.one (show Kd.FK (Kd.slice 3 (Kd.int .i64)) _ _ y144 [.slice Ao12 y144.length co12] from (Kd.FK_slice_mk (Kd.R_reads' (Kd.R_mono (ok' := (fun k_ => (w.heap.size ≤ k_) ∧ some k_ ≠ (.slice Ao4 y138.length co4 : Value).ownBlock ∧ k_ ≠ gb137)) (Kd.R_types (Kd.R_apart' (HO146.out) (Kd.R_typed HO140.out) (by decide)) BK137.out (by decide)) (fun k_ hk => ⟨hk.1.1.1.1.1, ⟨hk.1.2, hk.2⟩⟩))).2.1 (Kd.R_F (Kd.R_mono (ok' := (fun k_ => (w.heap.size ≤ k_) ∧ some k_ ≠ (.slice Ao4 y138.length co4 : Value).ownBlock ∧ k_ ≠ gb137)) (Kd.R_types (Kd.R_apart' (HO146.out) (Kd.R_typed HO140.out) (by decide)) BK137.out (by decide)) (fun k_ hk => ⟨hk.1.1.1.1.1, ⟨hk.1.2, hk.2⟩⟩))))) (Reps.one (show Kd.FK (Kd.slice 3 (Kd.int .i64)) _ _ y147 [.slice Ao13 y147.length co13] from (Kd.FK_slice_mk (Kd.R_reads' (Kd.R_mono (ok' := (fun k_ => (w.heap.size ≤ k_) ∧ some k_ ≠ (.slice Ao4 y138.length co4 : Value).ownBlock ∧ k_ ≠ gb137)) (Kd.R_types (Kd.R_apart' (HO149.out) (Kd.R_typed HO140.out) (by decide)) BK137.out (by decide)) (fun k_ hk => ⟨hk.1.1.1.1.1, ⟨hk.1.2, hk.2⟩⟩))).2.1 (Kd.R_F (Kd.R_mono (ok' := (fun k_ => (w.heap.size ≤ k_) ∧ some k_ ≠ (.slice Ao4 y138.length co4 : Value).ownBlock ∧ k_ ≠ gb137)) (Kd.R_types (Kd.R_apart' (HO149.out) (Kd.R_typed HO140.out) (by decide)) BK137.out (by decide)) (fun k_ hk => ⟨hk.1.1.1.1.1, ⟨hk.1.2, hk.2⟩⟩))))) (Reps.none _ _))))); intro v151 w14 ho15 hb hg_ hnew_; clear hg_ hnew_; (first | rw [← Ny150.out] at ho15 | (simp only [Int.reduceToNat] at ho15; rw [← Ny150.out] at ho15)); have n0_ := Aside0.mk (Kd.R_below (by (with_reducible repeat (first | apply Kd.R_alloc | apply Kd.R_drewN | apply Kd.R_drew)); exact HO140.out) hb); have n1_ := Aside0.mk (Kd.N_lower ho15 (below_size (by repeat (first | (with_reducible first | exact HB.out | apply below_alloc | apply pw_below_drewN | apply below_drew1 | refine below_set ?_ GE137.out) | exact HB.out)))); have n2_ := Aside0.mk (blk_below (g := gb137) (o := .cells #[.int .i64 0, .slice none 0 0] 24 (0, 0)) (by (with_reducible repeat (first | refine blk_drewN ?_ _ | refine blk_drew ?_ | refine blk_alloc ?_ _)); exact BK137.out) hb); have n3_ := Aside0.mk (below_step (by repeat (first | (with_reducible first | exact HB.out | apply below_alloc | apply pw_below_drewN | apply below_drew1 | refine below_set ?_ GE137.out) | exact HB.out)) hb); clear HO140; clear BK137; clear HB; clear HO143; clear HO146; clear HO149; have HO140 := n0_; have HO152 := n1_; have BK137 := n2_; have HB := n3_; clear n0_ n1_ n2_ n3_; clear hb ho15; have hcz16_0 : w14.cell? ⟨gb137, 0, none⟩ = some (.int .i64 0) := (blk_cell BK137.out 0).trans rfl; have hcz16_1 : w14.cell? ⟨gb137, 1, none⟩ = some (.slice none 0 0) := (blk_cell BK137.out 1).trans rfl; have hfz16_0 := blk_frozen BK137.out 0; have hfz16_1 := blk_frozen BK137.out 1))
 refine bodyPost_ret (results_ct rfl _ _ gb137 24 #[.int .i64 3, .slice Ao4 y138.length co4] (0, 0) _ rfl (by (with_reducible repeat (first | refine blk_drewN ?_ _ | refine blk_drew ?_ | refine blk_alloc ?_ _)); refine blk_put (cs := #[.int .i64 3, .slice none 0 0]) ?_ 1 _ rfl; (with_reducible repeat (first | refine blk_drewN ?_ _ | refine blk_drew ?_ | refine blk_alloc ?_ _)); refine blk_put (cs := #[.int .i64 0, .slice none 0 0]) ?_ 0 _ rfl; (with_reducible repeat (first | refine blk_drewN ?_ _ | refine blk_drew ?_ | refine blk_alloc ?_ _)); exact BK137.out) Try.underlying24 rfl (by kernel_rfl)) rfl ?_
 exact ⟨_, _, by first | rfl | (simp [errW_none, errW_some] <;> rfl) | (simp [*, errW_none, errW_some] <;> rfl), by (with_reducible repeat (first | apply Kd.R_alloc | apply Kd.R_drewN | apply Kd.R_drew)); exact Kd.R_mono (Kd.R_far (p := ⟨gb137, 1, none⟩) (Kd.R_far (p := ⟨gb137, 0, none⟩) (Kd.R_types HO140.out BK137.out (by decide)) (fun _ hk => hk.2) (.int .i64 3)) (fun _ hk => hk.2) (.slice Ao4 y138.length co4)) (fun _ hk => hk.1.1), by (with_reducible repeat (first | apply Kd.N_alloc | apply Kd.N_drewN | apply Kd.N_drew)); exact Kd.N_mono (Kd.N_far (p := ⟨gb137, 1, none⟩) (Kd.N_far (p := ⟨gb137, 0, none⟩) (Kd.N_mono HO152.out (fun k_ hk => (⟨hk, hk.2.2⟩ : _ ∧ k_ ≠ gb137))) (fun _ hk => hk.2) (.int .i64 3)) (fun _ hk => hk.2) (.slice Ao4 y138.length co4)) (fun _ hk => ⟨hk.1.1, hk.1.2.1⟩), by repeat (first | (with_reducible first | exact HB.out | apply below_alloc | apply pw_below_drewN | apply below_drew1 | refine below_set ?_ GE137.out) | exact HB.out)⟩
end Go.Proofs.Ytmikcfddipldnaa.GAll
namespace Go.Proofs.Ytmikcfddipldnaa.GAll
open Go.RowKit Go.Proofs.YtmikcfddipldnaaW.PrintWords Go.Proofs.YtmikcfddipldnaaW.PrintLast Go.Proofs.YtmikcfddipldnaaW.PrintMore
attribute [local go_sem] max2_int min2_int max_two min_two max_three min_three max_four min_four   -- for this text's walks alone
set_option linter.unusedVariables false
set_option linter.unusedSimpArgs false
def tangramlaw12_wakes.r : List (List Int) := [[0, 2], [1, 4], [3, 5]]
def tangramlaw12_wakes.es : List S56 := [⟨0, 1⟩, ⟨0, 2⟩, ⟨1, 2⟩]
set_option maxRecDepth 100000 in
theorem tangramlaw12_wakes.c0 : tangramlaw12_triangle.f = some (3, tangramlaw12_wakes.es, tangramlaw12_wakes.r) := by kernel_rfl
set_option maxRecDepth 100000 in
theorem tangramlaw12_wakes.c1 : faces_Of.f 40 3 tangramlaw12_wakes.es tangramlaw12_wakes.r = some ([[0, 4, 3], [1, 2, 5]], 0) := by kernel_rfl
set_option maxRecDepth 100000 in
theorem tangramlaw12_wakes.c2 : faces_Left.f 40 3 tangramlaw12_wakes.es tangramlaw12_wakes.r = some ([0, 1, 1, 0, 0, 1], 0) := by kernel_rfl
set_option maxRecDepth 100000 in
theorem tangramlaw12_wakes.c3 : faces_Genus.f 40 3 tangramlaw12_wakes.es tangramlaw12_wakes.r = some (0, 0) := by kernel_rfl
set_option maxRecDepth 100000 in
theorem tangramlaw12_wakes.c4 : faces_Of.f 40 3 tangramlaw12_wakes.es (tangramlaw12_wakes.r.take 2) = some ([], 110) := by kernel_rfl
set_option maxRecDepth 100000 in
theorem tangramlaw12_wakes.c5 : faces_Flat.f 40 3 tangramlaw12_wakes.es tangramlaw12_wakes.r = some true := by kernel_rfl
theorem tangramlaw12_wakes.s1 : tangramref03_SameLists.f 40 [[0, 4, 3], [1, 2, 5]] [[0, 4, 3], [1, 2, 5]] = some true := by kernel_rfl
theorem tangramlaw12_wakes.s2 : tangramref03_SameInts.f 40 [0, 1, 1, 0, 0, 1] [0, 1, 1, 0, 0, 1] = some true := by kernel_rfl
def tangramlaw12_wakes.f : Option Bool := some true
set_option maxHeartbeats 4000000 in
set_option maxRecDepth 100000 in
theorem tangramlaw12_wakes.calls (r : Bool) (w : World) (h : tangramlaw12_wakes.f = some r) :
   Calls Try.prog 9 #[] w fun e w' => e = .returned (.bool r) ∧ Below w.heap.size w w' := by
 obtain rfl : true = r := by simpa [tangramlaw12_wakes.f] using h
 clear h
 go_enter Try.func9, Try.ntmps9
 go_wp2_with fail
 refine (tangramlaw12_triangle.calls _ _ _ w tangramlaw12_wakes.c0).mono ?_
 rintro e w1 ⟨v1, v2, rfl, hR, hN, hb⟩
 have HB1 := Aside0.mk hb
 obtain ⟨A, c, rfl, hc, hC⟩ := Kd.R_reads hR
 obtain ⟨A1, c1, rfl, hc1, hC1⟩ := Kd.N_reads hN
 have HC1 := Aside0.mk hC
 have HL := Aside0.mk hc
 have HD1 := Aside0.mk hC1
 have HL1 := Aside0.mk hc1
 clear hb hR hN hC hC1 hc hc1
 have HX1 : Aside0 ((w1.alloc (.cells #[.int .i64 3, .slice A tangramlaw12_wakes.es.length c] 24 (0, 0))).heap[w1.heap.size]? = some (.cells #[.int .i64 3, .slice A tangramlaw12_wakes.es.length c] 24 (0, 0))) := ⟨Mem.heap_last w1 _⟩
 have hb : Below w1.heap.size w1 (w1.alloc (.cells #[.int .i64 3, .slice A tangramlaw12_wakes.es.length c] 24 (0, 0))) := (Below.refl _ _).alloc (Nat.le_refl _) _
 have HB2 := Aside0.mk (HB1.out.trans (hb.mono HB1.out.size))
 have HC2 := Aside0.mk (Kd.C_below HC1.out hb)
 have HD2 := Aside0.mk (Kd.C_below HD1.out hb)
 have x0 : (w1.alloc (.cells #[.int .i64 3, .slice A tangramlaw12_wakes.es.length c] 24 (0, 0))).cell? ⟨w1.heap.size, 0, none⟩ = some (.int .i64 3) := Mem.heap_cell HX1.out rfl
 have x1 : (w1.alloc (.cells #[.int .i64 3, .slice A tangramlaw12_wakes.es.length c] 24 (0, 0))).cell? ⟨w1.heap.size, 1, none⟩ = some (.slice A tangramlaw12_wakes.es.length c) := Mem.heap_cell HX1.out rfl
 clear hb HB1 HC1 HD1
 go_wp2_with fail
 generalize w1.alloc (.cells #[.int .i64 3, .slice A tangramlaw12_wakes.es.length c] 24 (0, 0)) = w2 at HX1 HB2 HC2 HD2 x0 x1 ⊢
 obtain ⟨b, hbb⟩ : ∃ b, b = w1.heap.size := ⟨_, rfl⟩
 rw [← hbb] at HX1 x0 x1 ⊢
 clear hbb
 refine (faces_Of.calls 40 3 A c tangramlaw12_wakes.es A1 c1 tangramlaw12_wakes.r _ _ w2 HC2.out HL.out HD2.out HL1.out tangramlaw12_wakes.c1).mono ?_
 rintro e w3 ⟨v, rfl, hR, hb⟩
 have HB3 := Aside0.mk (HB2.out.trans (hb.mono HB2.out.size))
 have HX3 := Aside0.mk ((hb.block _ (Mem.lt_of HX1.out)).trans HX1.out)
 have HC3 := Aside0.mk (Kd.C_below HC2.out hb)
 have HD3 := Aside0.mk (Kd.C_below HD2.out hb)
 clear HB2 HX1 HC2 HD2
 first | clear x0 x1 | skip
 have x0 : w3.cell? ⟨b, 0, none⟩ = some (.int .i64 3) := Mem.heap_cell HX3.out rfl
 have x1 : w3.cell? ⟨b, 1, none⟩ = some (.slice A tangramlaw12_wakes.es.length c) := Mem.heap_cell HX3.out rfl
 clear hb
 obtain ⟨A3, c3, e3, hc, hC⟩ := Kd.S_reads hR
 have HR3 := Aside0.mk hC
 have HL3 := Aside0.mk hc
 clear hR hC hc
 subst e3
 go_wp2_with fail
 refine (faces_Left.calls 40 3 A c tangramlaw12_wakes.es A1 c1 tangramlaw12_wakes.r _ _ w3 HC3.out HL.out HD3.out HL1.out tangramlaw12_wakes.c2).mono ?_
 rintro e w4 ⟨v, rfl, hR, hb⟩
 have HB4 := Aside0.mk (HB3.out.trans (hb.mono HB3.out.size))
 have HX4 := Aside0.mk ((hb.block _ (Mem.lt_of HX3.out)).trans HX3.out)
 have HC4 := Aside0.mk (Kd.C_below HC3.out hb)
 have HD4 := Aside0.mk (Kd.C_below HD3.out hb)
 clear HB3 HX3 HC3 HD3
 first | clear x0 x1 | skip
 have x0 : w4.cell? ⟨b, 0, none⟩ = some (.int .i64 3) := Mem.heap_cell HX4.out rfl
 have x1 : w4.cell? ⟨b, 1, none⟩ = some (.slice A tangramlaw12_wakes.es.length c) := Mem.heap_cell HX4.out rfl
 have HR3a := Aside0.mk (Kd.C_below HR3.out hb)
 clear HR3
 clear hb
 obtain ⟨A4, c4, e4, hc, hC⟩ := Kd.R_reads hR
 have HR4 := Aside0.mk hC
 have HL4 := Aside0.mk hc
 clear hR hC hc
 subst e4
 go_wp2_with fail
 refine (faces_Genus.calls 40 3 A c tangramlaw12_wakes.es A1 c1 tangramlaw12_wakes.r _ _ w4 HC4.out HL.out HD4.out HL1.out tangramlaw12_wakes.c3).mono ?_
 rintro e w5 ⟨rfl, hb⟩
 have HB5 := Aside0.mk (HB4.out.trans (hb.mono HB4.out.size))
 have HX5 := Aside0.mk ((hb.block _ (Mem.lt_of HX4.out)).trans HX4.out)
 have HC5 := Aside0.mk (Kd.C_below HC4.out hb)
 have HD5 := Aside0.mk (Kd.C_below HD4.out hb)
 clear HB4 HX4 HC4 HD4
 first | clear x0 x1 | skip
 have x0 : w5.cell? ⟨b, 0, none⟩ = some (.int .i64 3) := Mem.heap_cell HX5.out rfl
 have x1 : w5.cell? ⟨b, 1, none⟩ = some (.slice A tangramlaw12_wakes.es.length c) := Mem.heap_cell HX5.out rfl
 have HR3b := Aside0.mk (Kd.C_below HR3a.out hb)
 clear HR3a
 have HR4a := Aside0.mk (Kd.C_below HR4.out hb)
 clear HR4
 clear hb x0 x1
 have hX := Mem.C_take (a := 2) HD5.out HL1.out (by decide)
 have hXe : (if c1 = 0 then A1 else A1.map (·.add (0 * Mem.KR.sz))) = A1 := by
   rw [Nat.zero_mul]
   cases A1 <;> simp [Addr.add_zero']
 rw [hXe] at hX
 have HXC : Aside0 (Kd.C Mem.KR w5 A1 (tangramlaw12_wakes.r.take 2).length (tangramlaw12_wakes.r.take 2)) := ⟨hX⟩
 have hle : (2 : Int) ≤ (c1 : Int) := by
   have : 3 ≤ c1 := HL1.out
   omega
 clear hX hXe
 go_upto_region 5 with (fail)
 have hb : Below w5.heap.size w5 w5.drew := (Below.refl _ _).drew
 have HD5 := HD5
 have E0 : Aside0 (w5.drew.cell? ⟨b, 0, none⟩ = some (.int .i64 3)) := ⟨Mem.heap_cell (w := w5) HX5.out rfl⟩
 have E1 : Aside0 (w5.drew.cell? ⟨b, 1, none⟩ = some (.slice A tangramlaw12_wakes.es.length c)) := ⟨Mem.heap_cell (w := w5) HX5.out rfl⟩
 have HC5d := Aside0.mk (Kd.C_below HC5.out hb)
 have HXd := Aside0.mk (Kd.C_below HXC.out hb)
 clear hb HXC
 refine start_ (n := 9) (S := fun w' => w'.cell? ⟨b, 0, none⟩ = some (.int .i64 3) ∧ w'.cell? ⟨b, 1, none⟩ = some (.slice A tangramlaw12_wakes.es.length c)) (ds := [3]) #[false, false, false, false, false, false, false, false, false] (by kernel_rfl) rfl rfl ⟨E0.out, E1.out⟩ (fun hHeld => ?_)
 refine pure_ (i := 1) (N := some 35) (v := ?_) (a' := ?_) #[false, true, false, false, false, false, false, false, false] rfl rfl (by kernel_rfl) (fun _ _ _ h => h) (Or.inl ⟨by rfl, ?_⟩) ?_ ?_
 rotate_left
 · intro w'
   go_simp
   with_reducible rfl
 rotate_left
 · simp only [Act.put, List.setIfInBounds_toArray, List.set_cons_zero, List.set_cons_succ, i64_w, i32_w]
   rfl
 refine pure_ (i := 2) (N := some 36) (v := ?_) (a' := ?_) #[false, true, true, false, false, false, false, false, false] rfl rfl (by kernel_rfl) (fun _ _ _ h => h) (Or.inl ⟨by rfl, ?_⟩) ?_ ?_
 rotate_left
 · intro w'
   go_simp
   with_reducible rfl
 rotate_left
 · simp only [Act.put, List.setIfInBounds_toArray, List.set_cons_zero, List.set_cons_succ, i64_w, i32_w]
   rfl
 refine take_ (i := 0) (N := some 34) (v := ?_) (a' := ?_) #[true, true, true, false, false, false, false, false, false] rfl rfl (by kernel_rfl) (fun _ _ _ h => h) (Or.inl ⟨by rfl, ?_⟩) hHeld ?_ ?_
 rotate_left
 · rintro w' ⟨s0, s1⟩
   go_simp
   with_reducible rfl
 rotate_left
 · simp only [Act.put, List.setIfInBounds_toArray, List.set_cons_zero, List.set_cons_succ, i64_w, i32_w]
   rfl
 refine last_ (i := 3) (N := some 37) #[true, true, true, true, false, false, false, false, false] rfl rfl (by kernel_rfl) (by decide) (fun K hK => ?_)
 refine goes_ Try.func10 (by kernel_rfl) rfl #[.agg #[.int .i64 3, .slice A tangramlaw12_wakes.es.length c], .slice A1 (tangramlaw12_wakes.r.take 2).length c1] (by rfl) rfl rfl (by simp only [List.map_toArray, List.map_cons, List.map_nil]; rfl) ?_
 with_reducible refine (faces_Of.calls 40 3 A c tangramlaw12_wakes.es A1 c1 (tangramlaw12_wakes.r.take 2) _ _ w5.drew HC5d.out HL.out HXd.out (Nat.le_trans (by decide) HL1.out) tangramlaw12_wakes.c4).mono ?_
 rintro e w6 ⟨v6, rfl, hR6, hb6⟩
 refine ⟨_, rfl, ?_⟩
 have HBq := Aside0.mk hb6
 clear hR6 hb6
 refine hK.out _ _ ?_
 clear hK K
 refine norm_ (a' := ?_) ?_ ?_
 rotate_left
 · show Act.put _ (some 37) _ = _
   simp only [Act.put, List.setIfInBounds_toArray, List.set_cons_zero, List.set_cons_succ, i64_w, i32_w]
   rfl
 refine pure_ (i := 4) (N := some 33) (v := ?_) (a' := ?_) #[true, true, true, true, true, false, false, false, false] rfl rfl (by kernel_rfl) (fun _ _ _ h => h) (Or.inl ⟨by rfl, ?_⟩) ?_ ?_
 rotate_left
 · intro w'
   go_simp
   with_reducible rfl
 rotate_left
 · simp only [Act.put, List.setIfInBounds_toArray, List.set_cons_zero, List.set_cons_succ, i64_w, i32_w]
   rfl
 refine pure_ (i := 5) (N := some 38) (v := ?_) (a' := ?_) #[true, true, true, true, true, true, false, false, false] rfl rfl (by kernel_rfl) (fun _ _ _ h => h) (Or.inl ⟨by rfl, ?_⟩) ?_ ?_
 rotate_left
 · intro w'
   go_simp
   with_reducible rfl
 rotate_left
 · simp only [Act.put, List.setIfInBounds_toArray, List.set_cons_zero, List.set_cons_succ, i64_w, i32_w]
   rfl
 refine pure_ (i := 6) (N := some 39) (v := ?_) (a' := ?_) #[true, true, true, true, true, true, true, false, false] rfl rfl (by kernel_rfl) (fun _ _ _ h => h) (Or.inl ⟨by rfl, ?_⟩) ?_ ?_
 rotate_left
 · intro w'
   go_simp
   with_reducible rfl
 rotate_left
 · simp only [Act.put, List.setIfInBounds_toArray, List.set_cons_zero, List.set_cons_succ, i64_w, i32_w]
   rfl
 refine pure_ (i := 7) (N := some 9) (v := ?_) (a' := ?_) #[true, true, true, true, true, true, true, true, false] rfl rfl (by kernel_rfl) (fun _ _ _ h => h) (Or.inl ⟨by rfl, ?_⟩) ?_ ?_
 rotate_left
 · intro w'
   go_simp
   with_reducible rfl
 rotate_left
 · simp only [Act.put, List.setIfInBounds_toArray, List.set_cons_zero, List.set_cons_succ, i64_w, i32_w]
   rfl
 refine pure_ (i := 8) (N := some 10) (v := ?_) (a' := ?_) #[true, true, true, true, true, true, true, true, true] rfl rfl (by kernel_rfl) (fun _ _ _ h => h) (Or.inl ⟨by rfl, ?_⟩) ?_ ?_
 rotate_left
 · intro w'
   go_simp
   with_reducible rfl
 rotate_left
 · simp only [Act.put, List.setIfInBounds_toArray, List.set_cons_zero, List.set_cons_succ, i64_w, i32_w]
   rfl
 refine done_ (by kernel_rfl) ?_
 have hb : Below w5.heap.size w5 w6 := (((Below.refl w5.heap.size w5).drew).trans HBq.out)
 have HB6 := Aside0.mk (HB5.out.trans (hb.mono HB5.out.size))
 have HX6 := Aside0.mk ((hb.block _ (Mem.lt_of HX5.out)).trans HX5.out)
 have HC6 := Aside0.mk (Kd.C_below HC5.out hb)
 have HD6 := Aside0.mk (Kd.C_below HD5.out hb)
 clear HB5 HX5 HC5 HD5
 first | clear x0 x1 | skip
 have x0 : w6.cell? ⟨b, 0, none⟩ = some (.int .i64 3) := Mem.heap_cell HX6.out rfl
 have x1 : w6.cell? ⟨b, 1, none⟩ = some (.slice A tangramlaw12_wakes.es.length c) := Mem.heap_cell HX6.out rfl
 have HR3c := Aside0.mk (Kd.C_below HR3b.out hb)
 clear HR3b
 have HR4b := Aside0.mk (Kd.C_below HR4a.out hb)
 clear HR4a
 clear hb HBq hle HXd HC5d E0 E1
 go_wp2_with fail
 refine (faces_Flat.calls 40 3 A c tangramlaw12_wakes.es A1 c1 tangramlaw12_wakes.r _ w6 HC6.out HL.out HD6.out HL1.out tangramlaw12_wakes.c5).mono ?_
 rintro e w7 ⟨rfl, hb⟩
 have HB7 := Aside0.mk (HB6.out.trans (hb.mono HB6.out.size))
 have HR3d := Aside0.mk (Kd.C_below HR3c.out hb)
 clear HR3c
 have HR4c := Aside0.mk (Kd.C_below HR4b.out hb)
 clear HR4b
 clear hb x0 x1 HB6 HX6 HC6 HD6
 have HQ8 : Aside0 (Kd.C Mem.KR ((Mem.lits w7 [[0, 4, 3], [1, 2, 5]]).alloc (.cells (Mem.outer w7.heap.size [[0, 4, 3], [1, 2, 5]]).toArray 36 (0, 0))) (some ⟨w7.heap.size + 1 + 1, 0, none⟩) 2 [[0, 4, 3], [1, 2, 5]]) := ⟨Mem.lits_reads w7 [[0, 4, 3], [1, 2, 5]] (by decide) (by decide)⟩
 have hb := Mem.lits_all w7 [[0, 4, 3], [1, 2, 5]]
 have HB8 := Aside0.mk (HB7.out.trans (hb.mono HB7.out.size))
 have HR3e := Aside0.mk (Kd.C_below HR3d.out hb)
 clear HR3d
 have HR4d := Aside0.mk (Kd.C_below HR4c.out hb)
 clear HR4c
 clear hb HB7
 go_wp2_with fail
 show Calls _ _ _ ((Mem.lits w7 [[0, 4, 3], [1, 2, 5]]).alloc (.cells (Mem.outer w7.heap.size [[0, 4, 3], [1, 2, 5]]).toArray 36 (0, 0))) _
 generalize (Mem.lits w7 [[0, 4, 3], [1, 2, 5]]).alloc (.cells (Mem.outer w7.heap.size [[0, 4, 3], [1, 2, 5]]).toArray 36 (0, 0)) = w8 at HQ8 HB8 HR3e HR4d ⊢
 refine (tangramref03_SameLists.calls 40 A3 c3 [[0, 4, 3], [1, 2, 5]] (some ⟨w7.heap.size + 1 + 1, 0, none⟩) 2 [[0, 4, 3], [1, 2, 5]] true w8 HR3e.out HL3.out HQ8.out (by decide) tangramlaw12_wakes.s1).mono ?_
 rintro e w9 ⟨rfl, hd⟩
 have hb := hd.below
 have HB9 := Aside0.mk (HB8.out.trans (hb.mono HB8.out.size))
 have HR4e := Aside0.mk (Kd.C_below HR4d.out hb)
 clear HR4d
 clear hb hd HQ8 HB8 HR3e
 have HIX : Aside0 (Mem.IRow (w9.alloc (.cells #[.int .i64 0, .int .i64 1, .int .i64 1, .int .i64 0, .int .i64 0, .int .i64 1] 3 (0, 0))) w9.heap.size [0, 1, 1, 0, 0, 1]) := ⟨Mem.heap_last w9 _⟩
 have hb := (Below.refl w9.heap.size w9).alloc (Nat.le_refl _) (.cells #[.int .i64 0, .int .i64 1, .int .i64 1, .int .i64 0, .int .i64 0, .int .i64 1] 3 (0, 0))
 have HBx := Aside0.mk (HB9.out.trans (hb.mono HB9.out.size))
 have HR4f := Aside0.mk (Kd.C_below HR4e.out hb)
 clear HR4e
 clear hb HB9
 go_wp2_with fail
 generalize w9.alloc (.cells #[.int .i64 0, .int .i64 1, .int .i64 1, .int .i64 0, .int .i64 0, .int .i64 1] 3 (0, 0)) = wx at HIX HBx HR4f ⊢
 refine (tangramref03_SameInts.calls 40 A4 c4 [0, 1, 1, 0, 0, 1] (some ⟨w9.heap.size, 0, none⟩) 6 [0, 1, 1, 0, 0, 1] true wx HR4f.out HL4.out (Mem.row_reads HIX.out (by decide)) (by decide) tangramlaw12_wakes.s2).mono ?_
 rintro e w10 ⟨rfl, hd⟩
 have hb := hd.below
 have HB10 := Aside0.mk (HBx.out.trans (hb.mono HBx.out.size))
 clear hb hd HIX HBx HR4f
 go_wp2_with fail
 go_ret
 exact ⟨rfl, HB10.out⟩
end Go.Proofs.Ytmikcfddipldnaa.GAll
namespace Go.Proofs.Ytmikcfddipldnaa.GAll
open Go.RowKit Go.Proofs.YtmikcfddipldnaaW.PrintWords Go.Proofs.YtmikcfddipldnaaW.PrintLast Go.Proofs.YtmikcfddipldnaaW.PrintMore
attribute [local go_sem] max2_int min2_int max_two min_two max_three min_three max_four min_four   -- for this text's walks alone
set_option linter.unusedVariables false
set_option linter.unusedSimpArgs false
def tangramlaw12_lengths.fit (fs : List (List Int)) (a : Int) : Bool := decide (0 ≤ a) && (decide (a ≤ 4194304) && (decide (fs.length ≤ 9000000) && fs.all fun row => decide (row.length ≤ 9000000)))
def tangramlaw12_lengths.f (k : Nat) (l0 : List (List Int)) (a1 : Int) : Option (List Int) := if tangramlaw12_lengths.fit l0 a1 = true then some (Face.lensTo l0 (2 * a1.toNat) l0.length) else none
theorem tangramlaw12_lengths.mono : ∀ a0 a1 k, LeO (tangramlaw12_lengths.f k a0 a1) (tangramlaw12_lengths.f (k + 1) a0 a1) := fun _ _ _ => LeO.refl _
theorem tangramlaw12_lengths.calls (k : Nat) (A0 : Option Addr) (c0 : Nat) (l0 : List (List Int)) (a1 : Int) (r : List Int) (w : World) (hr0 : Kd.C (Kd.slice 3 (Kd.int .i64)) w A0 l0.length l0) (hc0 : l0.length ≤ c0) (h : tangramlaw12_lengths.f k l0 a1 = some r) :
   Calls Try.prog 29 #[.slice A0 l0.length c0, .int .i64 a1] w fun e w' => ∃ v0_ : Value, e = .returned (v0_) ∧ Kd.R (Kd.int .i64) 3 w' w.heap.size (fun _ => True) v0_ r ∧ Below w.heap.size w w' := by
 unfold tangramlaw12_lengths.f at h
 by_cases hf : tangramlaw12_lengths.fit l0 a1 = true
 · rw [if_pos hf] at h
   injection h with h
   subst h
   unfold tangramlaw12_lengths.fit at hf
   simp only [Bool.and_eq_true, decide_eq_true_eq, List.all_eq_true] at hf
   obtain ⟨h1, h2, h3, h4⟩ := hf
   obtain ⟨m, rfl⟩ := Int.eq_ofNat_of_zero_le h1
   exact Face.lengths_ok l0 A0 c0 m w hr0 (by omega) h3 (fun q hq => h4 _ (List.mem_of_getElem? (Mem.gl_of hq)))
 · rw [if_neg hf] at h; cases h
end Go.Proofs.Ytmikcfddipldnaa.GAll
namespace Go.Proofs.Ytmikcfddipldnaa.Rot
open Go.RowKit Go.Proofs.YtmikcfddipldnaaW.PrintWords Go.Proofs.YtmikcfddipldnaaW.PrintLast Go.Proofs.YtmikcfddipldnaaW.PrintMore Go.Proofs.Ytmikcfddipldnaa.GAll Go.Proofs.Ytmikcfddipldnaa.Mem Go.Proofs.Ytmikcfddipldnaa.Ring Go.Proofs.Ytmikcfddipldnaa.Face
set_option linter.unusedVariables false
set_option linter.unusedSimpArgs false
set_option maxHeartbeats 4000000 in
set_option maxRecDepth 100000 in
theorem turned_bad (k : Nat) (n : Int) (A : Option Addr) (c : Nat) (l : List Ed) (A1 : Option Addr) (c1 : Nat) (r : List (List Int)) (w : World) (hr : Kd.C k56 w A l.length l) (hc : l.length ≤ c) (hr1 : Kd.C (Kd.slice 3 (Kd.int .i64)) w A1 r.length r) (hc1 : r.length ≤ c1)
   {e : Int} {fs : List (List Int)} (cg : tangramref03_Copy.f k n l = some (n, l)) (cr : tangramref11_Copy.f k r = some r) (h1 : faces_Of.f k n l r = some (fs, e))
   (he : e ≠ 0) (hfs : fs = []) :
   Calls Try.prog 8 #[.agg #[.int .i64 n, .slice A l.length c], .slice A1 r.length c1] w fun e w' => e = .returned (.bool true) ∧ Below w.heap.size w w' := by
 have t1 : (e != 0) = true := bne_iff_ne.2 he
 have t2 : ((fs.length : Int) == 0) = true := by rw [hfs]; rfl
 clear he hfs
 have HCG := Aside0.mk cg
 have HCQ := Aside0.mk cr
 have H1 := Aside0.mk h1
 clear cg cr h1
 have HX := Aside0.mk (heap_last w (.cells #[.int .i64 n, .slice A l.length c] 24 (0, 0)))
 have HB : Aside0 (Below w.heap.size w (w.alloc (.cells #[.int .i64 n, .slice A l.length c] 24 (0, 0)))) := ⟨(Below.refl _ _).alloc (Nat.le_refl _) _⟩
 have HG := Aside0.mk (Kd.C_below hr HB.out)
 have HR := Aside0.mk (Kd.C_below hr1 HB.out)
 have HCC := Aside0.mk hc
 have HCR := Aside0.mk hc1
 clear hr hr1 hc hc1
 go_enter Try.func8, Try.ntmps8
 go_wp2_with fail
 generalize w.alloc (.cells #[.int .i64 n, .slice A l.length c] 24 (0, 0)) = w0 at HX HB HG HR ⊢
 obtain ⟨b, hbb⟩ : ∃ b, b = w.heap.size := ⟨_, rfl⟩
 rw [← hbb] at HX ⊢
 clear hbb
 refine (tangramlaw12_wakes.calls true w0 rfl).mono ?_
 rintro e' w1 ⟨rfl, hb⟩
 replace HB := Aside0.mk (HB.out.trans (hb.mono HB.out.size))
 replace HX := Aside0.mk ((hb.block _ (lt_of HX.out)).trans HX.out)
 replace HG := Aside0.mk (Kd.C_below HG.out hb)
 replace HR := Aside0.mk (Kd.C_below HR.out hb)
 (try replace HGC := Aside0.mk (Kd.C_below HGC.out hb))
 (try replace HRC := Aside0.mk (Kd.C_below HRC.out hb))
 (try replace HV1 := Aside0.mk (Kd.C_below HV1.out hb))
 (try replace HV2 := Aside0.mk (Kd.C_below HV2.out hb))
 (try replace HV3 := Aside0.mk (Kd.C_below HV3.out hb))
 clear hb
 have x0 : w1.cell? ⟨b, 0, none⟩ = some (.int .i64 n) := heap_cell HX.out rfl
 have x1 : w1.cell? ⟨b, 1, none⟩ = some (.slice A l.length c) := heap_cell HX.out rfl
 go_wp2_with fail
 clear x0 x1
 refine (tangramref03_Copy.calls k n A c l n l w1 HG.out HCC.out HCG.out).mono ?_
 rintro e' w2 ⟨vg, rfl, hR, hb⟩
 replace HB := Aside0.mk (HB.out.trans (hb.mono HB.out.size))
 replace HX := Aside0.mk ((hb.block _ (lt_of HX.out)).trans HX.out)
 replace HG := Aside0.mk (Kd.C_below HG.out hb)
 replace HR := Aside0.mk (Kd.C_below HR.out hb)
 (try replace HGC := Aside0.mk (Kd.C_below HGC.out hb))
 (try replace HRC := Aside0.mk (Kd.C_below HRC.out hb))
 (try replace HV1 := Aside0.mk (Kd.C_below HV1.out hb))
 (try replace HV2 := Aside0.mk (Kd.C_below HV2.out hb))
 (try replace HV3 := Aside0.mk (Kd.C_below HV3.out hb))
 obtain ⟨Ag, cg, rfl, hcg, hR⟩ := Kd.R_reads hR
 have HGC := Aside0.mk hR
 have HGL := Aside0.mk hcg
 clear hb hR hcg
 go_wp2_with fail
 refine (tangramref11_Copy.calls k A1 c1 r r w2 HR.out HCR.out HCQ.out).mono ?_
 rintro e' w3 ⟨vr, rfl, hS, hb⟩
 replace HB := Aside0.mk (HB.out.trans (hb.mono HB.out.size))
 replace HX := Aside0.mk ((hb.block _ (lt_of HX.out)).trans HX.out)
 replace HG := Aside0.mk (Kd.C_below HG.out hb)
 replace HR := Aside0.mk (Kd.C_below HR.out hb)
 (try replace HGC := Aside0.mk (Kd.C_below HGC.out hb))
 (try replace HRC := Aside0.mk (Kd.C_below HRC.out hb))
 (try replace HV1 := Aside0.mk (Kd.C_below HV1.out hb))
 (try replace HV2 := Aside0.mk (Kd.C_below HV2.out hb))
 (try replace HV3 := Aside0.mk (Kd.C_below HV3.out hb))
 obtain ⟨Ar, cr, rfl, hcr, hS⟩ := Kd.S_reads hS
 have HRC := Aside0.mk hS
 have HRL := Aside0.mk hcr
 clear hb hS hcr
 go_wp2_with fail
 refine (faces_Of.calls k n Ag cg l Ar cr r fs e w3 HGC.out HGL.out HRC.out HRL.out H1.out).mono ?_
 rintro e' w4 ⟨vv, rfl, hS, hb⟩
 replace HB := Aside0.mk (HB.out.trans (hb.mono HB.out.size))
 replace HX := Aside0.mk ((hb.block _ (lt_of HX.out)).trans HX.out)
 replace HG := Aside0.mk (Kd.C_below HG.out hb)
 replace HR := Aside0.mk (Kd.C_below HR.out hb)
 (try replace HGC := Aside0.mk (Kd.C_below HGC.out hb))
 (try replace HRC := Aside0.mk (Kd.C_below HRC.out hb))
 (try replace HV1 := Aside0.mk (Kd.C_below HV1.out hb))
 (try replace HV2 := Aside0.mk (Kd.C_below HV2.out hb))
 (try replace HV3 := Aside0.mk (Kd.C_below HV3.out hb))
 obtain ⟨A4, c4, rfl, hcv, hS⟩ := Kd.S_reads hS
 have HV1 := Aside0.mk hS
 have HL1 := Aside0.mk hcv
 (try clear HGC HGL)
 (try clear HRC HRL)
 clear hb hS hcv
 go_wp2_with fail
 go_ret
 exact ⟨by simp, HB.out⟩
set_option maxHeartbeats 4000000 in
set_option maxRecDepth 100000 in
theorem turned_ok (k : Nat) (n : Int) (A : Option Addr) (c : Nat) (l : List Ed) (A1 : Option Addr) (c1 : Nat) (r : List (List Int)) (w : World) (hr : Kd.C k56 w A l.length l) (hc : l.length ≤ c) (hr1 : Kd.C (Kd.slice 3 (Kd.int .i64)) w A1 r.length r) (hc1 : r.length ≤ c1)
   {e : Int} {fs : List (List Int)} (cg : tangramref03_Copy.f k n l = some (n, l)) (cr : tangramref11_Copy.f k r = some r) (h1 : faces_Of.f k n l r = some (fs, e))
   {rc rm fm : List (List Int)} {ge : Int} {ls : List Int} (h2 : rot_Canon.f k r = some rc) (h3 : faces_Of.f k n l rc = some (fs, 0)) (h4 : rot_Mirror.f k r = some rm) (h5 : faces_Of.f k n l rm = some (fm, 0)) (h6 : faces_Genus.f k n l r = some (ge, 0)) (h7 : faces_Genus.f k n l rm = some (ge, 0))
   (h8 : tangramref03_SameLists.f k fs fs = some true) (h9 : tangramlaw12_lengths.f k fs (l.length : Int) = some ls) (h10 : tangramlaw12_lengths.f k fm (l.length : Int) = some ls) (h11 : tangramref03_SameInts.f k ls ls = some true) (he : e = 0) :
   Calls Try.prog 8 #[.agg #[.int .i64 n, .slice A l.length c], .slice A1 r.length c1] w fun e w' => e = .returned (.bool true) ∧ Below w.heap.size w w' := by
 have t1 : (e != 0) = false := bne_eq_false_iff_eq.2 he
 have H2 := Aside0.mk h2
 have H3 := Aside0.mk h3
 have H4 := Aside0.mk h4
 have H5 := Aside0.mk h5
 have H6 := Aside0.mk h6
 have H7 := Aside0.mk h7
 have H8 := Aside0.mk h8
 have H9 := Aside0.mk h9
 have H10 := Aside0.mk h10
 have H11 := Aside0.mk h11
 clear h2 h3 h4 h5 h6 h7 h8 h9 h10 h11 he
 have HCG := Aside0.mk cg
 have HCQ := Aside0.mk cr
 have H1 := Aside0.mk h1
 clear cg cr h1
 have HX := Aside0.mk (heap_last w (.cells #[.int .i64 n, .slice A l.length c] 24 (0, 0)))
 have HB : Aside0 (Below w.heap.size w (w.alloc (.cells #[.int .i64 n, .slice A l.length c] 24 (0, 0)))) := ⟨(Below.refl _ _).alloc (Nat.le_refl _) _⟩
 have HG := Aside0.mk (Kd.C_below hr HB.out)
 have HR := Aside0.mk (Kd.C_below hr1 HB.out)
 have HCC := Aside0.mk hc
 have HCR := Aside0.mk hc1
 clear hr hr1 hc hc1
 go_enter Try.func8, Try.ntmps8
 go_wp2_with fail
 generalize w.alloc (.cells #[.int .i64 n, .slice A l.length c] 24 (0, 0)) = w0 at HX HB HG HR ⊢
 obtain ⟨b, hbb⟩ : ∃ b, b = w.heap.size := ⟨_, rfl⟩
 rw [← hbb] at HX ⊢
 clear hbb
 refine (tangramlaw12_wakes.calls true w0 rfl).mono ?_
 rintro e' w1 ⟨rfl, hb⟩
 replace HB := Aside0.mk (HB.out.trans (hb.mono HB.out.size))
 replace HX := Aside0.mk ((hb.block _ (lt_of HX.out)).trans HX.out)
 replace HG := Aside0.mk (Kd.C_below HG.out hb)
 replace HR := Aside0.mk (Kd.C_below HR.out hb)
 (try replace HGC := Aside0.mk (Kd.C_below HGC.out hb))
 (try replace HRC := Aside0.mk (Kd.C_below HRC.out hb))
 (try replace HV1 := Aside0.mk (Kd.C_below HV1.out hb))
 (try replace HV2 := Aside0.mk (Kd.C_below HV2.out hb))
 (try replace HV3 := Aside0.mk (Kd.C_below HV3.out hb))
 clear hb
 have x0 : w1.cell? ⟨b, 0, none⟩ = some (.int .i64 n) := heap_cell HX.out rfl
 have x1 : w1.cell? ⟨b, 1, none⟩ = some (.slice A l.length c) := heap_cell HX.out rfl
 go_wp2_with fail
 clear x0 x1
 refine (tangramref03_Copy.calls k n A c l n l w1 HG.out HCC.out HCG.out).mono ?_
 rintro e' w2 ⟨vg, rfl, hR, hb⟩
 replace HB := Aside0.mk (HB.out.trans (hb.mono HB.out.size))
 replace HX := Aside0.mk ((hb.block _ (lt_of HX.out)).trans HX.out)
 replace HG := Aside0.mk (Kd.C_below HG.out hb)
 replace HR := Aside0.mk (Kd.C_below HR.out hb)
 (try replace HGC := Aside0.mk (Kd.C_below HGC.out hb))
 (try replace HRC := Aside0.mk (Kd.C_below HRC.out hb))
 (try replace HV1 := Aside0.mk (Kd.C_below HV1.out hb))
 (try replace HV2 := Aside0.mk (Kd.C_below HV2.out hb))
 (try replace HV3 := Aside0.mk (Kd.C_below HV3.out hb))
 obtain ⟨Ag, cg, rfl, hcg, hR⟩ := Kd.R_reads hR
 have HGC := Aside0.mk hR
 have HGL := Aside0.mk hcg
 clear hb hR hcg
 go_wp2_with fail
 refine (tangramref11_Copy.calls k A1 c1 r r w2 HR.out HCR.out HCQ.out).mono ?_
 rintro e' w3 ⟨vr, rfl, hS, hb⟩
 replace HB := Aside0.mk (HB.out.trans (hb.mono HB.out.size))
 replace HX := Aside0.mk ((hb.block _ (lt_of HX.out)).trans HX.out)
 replace HG := Aside0.mk (Kd.C_below HG.out hb)
 replace HR := Aside0.mk (Kd.C_below HR.out hb)
 (try replace HGC := Aside0.mk (Kd.C_below HGC.out hb))
 (try replace HRC := Aside0.mk (Kd.C_below HRC.out hb))
 (try replace HV1 := Aside0.mk (Kd.C_below HV1.out hb))
 (try replace HV2 := Aside0.mk (Kd.C_below HV2.out hb))
 (try replace HV3 := Aside0.mk (Kd.C_below HV3.out hb))
 obtain ⟨Ar, cr, rfl, hcr, hS⟩ := Kd.S_reads hS
 have HRC := Aside0.mk hS
 have HRL := Aside0.mk hcr
 clear hb hS hcr
 go_wp2_with fail
 refine (faces_Of.calls k n Ag cg l Ar cr r fs e w3 HGC.out HGL.out HRC.out HRL.out H1.out).mono ?_
 rintro e' w4 ⟨vv, rfl, hS, hb⟩
 replace HB := Aside0.mk (HB.out.trans (hb.mono HB.out.size))
 replace HX := Aside0.mk ((hb.block _ (lt_of HX.out)).trans HX.out)
 replace HG := Aside0.mk (Kd.C_below HG.out hb)
 replace HR := Aside0.mk (Kd.C_below HR.out hb)
 (try replace HGC := Aside0.mk (Kd.C_below HGC.out hb))
 (try replace HRC := Aside0.mk (Kd.C_below HRC.out hb))
 (try replace HV1 := Aside0.mk (Kd.C_below HV1.out hb))
 (try replace HV2 := Aside0.mk (Kd.C_below HV2.out hb))
 (try replace HV3 := Aside0.mk (Kd.C_below HV3.out hb))
 obtain ⟨A4, c4, rfl, hcv, hS⟩ := Kd.S_reads hS
 have HV1 := Aside0.mk hS
 have HL1 := Aside0.mk hcv
 (try clear HGC HGL)
 (try clear HRC HRL)
 clear hb hS hcv
 have x0 : w4.cell? ⟨b, 0, none⟩ = some (.int .i64 n) := heap_cell HX.out rfl
 have x1 : w4.cell? ⟨b, 1, none⟩ = some (.slice A l.length c) := heap_cell HX.out rfl
 go_wp2_with fail
 clear x0 x1
 refine (tangramref03_Copy.calls k n A c l n l w4 HG.out HCC.out HCG.out).mono ?_
 rintro e' w5 ⟨vg, rfl, hR, hb⟩
 replace HB := Aside0.mk (HB.out.trans (hb.mono HB.out.size))
 replace HX := Aside0.mk ((hb.block _ (lt_of HX.out)).trans HX.out)
 replace HG := Aside0.mk (Kd.C_below HG.out hb)
 replace HR := Aside0.mk (Kd.C_below HR.out hb)
 (try replace HGC := Aside0.mk (Kd.C_below HGC.out hb))
 (try replace HRC := Aside0.mk (Kd.C_below HRC.out hb))
 (try replace HV1 := Aside0.mk (Kd.C_below HV1.out hb))
 (try replace HV2 := Aside0.mk (Kd.C_below HV2.out hb))
 (try replace HV3 := Aside0.mk (Kd.C_below HV3.out hb))
 obtain ⟨Ag, cg, rfl, hcg, hR⟩ := Kd.R_reads hR
 have HGC := Aside0.mk hR
 have HGL := Aside0.mk hcg
 clear hb hR hcg
 go_wp2_with fail
 refine (tangramref11_Copy.calls k A1 c1 r r w5 HR.out HCR.out HCQ.out).mono ?_
 rintro e' w6 ⟨vr, rfl, hS, hb⟩
 replace HB := Aside0.mk (HB.out.trans (hb.mono HB.out.size))
 replace HX := Aside0.mk ((hb.block _ (lt_of HX.out)).trans HX.out)
 replace HG := Aside0.mk (Kd.C_below HG.out hb)
 replace HR := Aside0.mk (Kd.C_below HR.out hb)
 (try replace HGC := Aside0.mk (Kd.C_below HGC.out hb))
 (try replace HRC := Aside0.mk (Kd.C_below HRC.out hb))
 (try replace HV1 := Aside0.mk (Kd.C_below HV1.out hb))
 (try replace HV2 := Aside0.mk (Kd.C_below HV2.out hb))
 (try replace HV3 := Aside0.mk (Kd.C_below HV3.out hb))
 obtain ⟨Ar, cr, rfl, hcr, hS⟩ := Kd.S_reads hS
 have HRC := Aside0.mk hS
 have HRL := Aside0.mk hcr
 clear hb hS hcr
 go_wp2_with fail
 refine (rot_Canon.calls k Ar cr r rc w6 HRC.out HRL.out H2.out).mono ?_
 rintro e' w7 ⟨vc, rfl, hS, hb⟩
 replace HB := Aside0.mk (HB.out.trans (hb.mono HB.out.size))
 replace HX := Aside0.mk ((hb.block _ (lt_of HX.out)).trans HX.out)
 replace HG := Aside0.mk (Kd.C_below HG.out hb)
 replace HR := Aside0.mk (Kd.C_below HR.out hb)
 (try replace HGC := Aside0.mk (Kd.C_below HGC.out hb))
 (try replace HRC := Aside0.mk (Kd.C_below HRC.out hb))
 (try replace HV1 := Aside0.mk (Kd.C_below HV1.out hb))
 (try replace HV2 := Aside0.mk (Kd.C_below HV2.out hb))
 (try replace HV3 := Aside0.mk (Kd.C_below HV3.out hb))
 obtain ⟨Ac, cc, rfl, hcc, hS⟩ := Kd.S_reads hS
 have HKC := Aside0.mk hS
 have HKL := Aside0.mk hcc
 clear hb hS hcc
 go_wp2_with fail
 refine (faces_Of.calls k n Ag cg l Ac cc rc fs 0 w7 HGC.out HGL.out HKC.out HKL.out H3.out).mono ?_
 rintro e' w8 ⟨vv, rfl, hS, hb⟩
 replace HB := Aside0.mk (HB.out.trans (hb.mono HB.out.size))
 replace HX := Aside0.mk ((hb.block _ (lt_of HX.out)).trans HX.out)
 replace HG := Aside0.mk (Kd.C_below HG.out hb)
 replace HR := Aside0.mk (Kd.C_below HR.out hb)
 (try replace HGC := Aside0.mk (Kd.C_below HGC.out hb))
 (try replace HRC := Aside0.mk (Kd.C_below HRC.out hb))
 (try replace HV1 := Aside0.mk (Kd.C_below HV1.out hb))
 (try replace HV2 := Aside0.mk (Kd.C_below HV2.out hb))
 (try replace HV3 := Aside0.mk (Kd.C_below HV3.out hb))
 obtain ⟨A8, c8, rfl, hcv, hS⟩ := Kd.S_reads hS
 have HV2 := Aside0.mk hS
 have HL2 := Aside0.mk hcv
 (try clear HGC HGL)
 (try clear HRC HRL)
 clear hb hS hcv
 clear HKC HKL
 have x0 : w8.cell? ⟨b, 0, none⟩ = some (.int .i64 n) := heap_cell HX.out rfl
 have x1 : w8.cell? ⟨b, 1, none⟩ = some (.slice A l.length c) := heap_cell HX.out rfl
 go_wp2_with fail
 clear x0 x1
 refine (tangramref03_Copy.calls k n A c l n l w8 HG.out HCC.out HCG.out).mono ?_
 rintro e' w9 ⟨vg, rfl, hR, hb⟩
 replace HB := Aside0.mk (HB.out.trans (hb.mono HB.out.size))
 replace HX := Aside0.mk ((hb.block _ (lt_of HX.out)).trans HX.out)
 replace HG := Aside0.mk (Kd.C_below HG.out hb)
 replace HR := Aside0.mk (Kd.C_below HR.out hb)
 (try replace HGC := Aside0.mk (Kd.C_below HGC.out hb))
 (try replace HRC := Aside0.mk (Kd.C_below HRC.out hb))
 (try replace HV1 := Aside0.mk (Kd.C_below HV1.out hb))
 (try replace HV2 := Aside0.mk (Kd.C_below HV2.out hb))
 (try replace HV3 := Aside0.mk (Kd.C_below HV3.out hb))
 obtain ⟨Ag, cg, rfl, hcg, hR⟩ := Kd.R_reads hR
 have HGC := Aside0.mk hR
 have HGL := Aside0.mk hcg
 clear hb hR hcg
 go_wp2_with fail
 refine (tangramref11_Copy.calls k A1 c1 r r w9 HR.out HCR.out HCQ.out).mono ?_
 rintro e' w10 ⟨vr, rfl, hS, hb⟩
 replace HB := Aside0.mk (HB.out.trans (hb.mono HB.out.size))
 replace HX := Aside0.mk ((hb.block _ (lt_of HX.out)).trans HX.out)
 replace HG := Aside0.mk (Kd.C_below HG.out hb)
 replace HR := Aside0.mk (Kd.C_below HR.out hb)
 (try replace HGC := Aside0.mk (Kd.C_below HGC.out hb))
 (try replace HRC := Aside0.mk (Kd.C_below HRC.out hb))
 (try replace HV1 := Aside0.mk (Kd.C_below HV1.out hb))
 (try replace HV2 := Aside0.mk (Kd.C_below HV2.out hb))
 (try replace HV3 := Aside0.mk (Kd.C_below HV3.out hb))
 obtain ⟨Ar, cr, rfl, hcr, hS⟩ := Kd.S_reads hS
 have HRC := Aside0.mk hS
 have HRL := Aside0.mk hcr
 clear hb hS hcr
 go_wp2_with fail
 refine (rot_Mirror.calls k Ar cr r rm w10 HRC.out HRL.out H4.out).mono ?_
 rintro e' w11 ⟨vc, rfl, hS, hb⟩
 replace HB := Aside0.mk (HB.out.trans (hb.mono HB.out.size))
 replace HX := Aside0.mk ((hb.block _ (lt_of HX.out)).trans HX.out)
 replace HG := Aside0.mk (Kd.C_below HG.out hb)
 replace HR := Aside0.mk (Kd.C_below HR.out hb)
 (try replace HGC := Aside0.mk (Kd.C_below HGC.out hb))
 (try replace HRC := Aside0.mk (Kd.C_below HRC.out hb))
 (try replace HV1 := Aside0.mk (Kd.C_below HV1.out hb))
 (try replace HV2 := Aside0.mk (Kd.C_below HV2.out hb))
 (try replace HV3 := Aside0.mk (Kd.C_below HV3.out hb))
 obtain ⟨Ac, cc, rfl, hcc, hS⟩ := Kd.S_reads hS
 have HKC := Aside0.mk hS
 have HKL := Aside0.mk hcc
 clear hb hS hcc
 go_wp2_with fail
 refine (faces_Of.calls k n Ag cg l Ac cc rm fm 0 w11 HGC.out HGL.out HKC.out HKL.out H5.out).mono ?_
 rintro e' w12 ⟨vv, rfl, hS, hb⟩
 replace HB := Aside0.mk (HB.out.trans (hb.mono HB.out.size))
 replace HX := Aside0.mk ((hb.block _ (lt_of HX.out)).trans HX.out)
 replace HG := Aside0.mk (Kd.C_below HG.out hb)
 replace HR := Aside0.mk (Kd.C_below HR.out hb)
 (try replace HGC := Aside0.mk (Kd.C_below HGC.out hb))
 (try replace HRC := Aside0.mk (Kd.C_below HRC.out hb))
 (try replace HV1 := Aside0.mk (Kd.C_below HV1.out hb))
 (try replace HV2 := Aside0.mk (Kd.C_below HV2.out hb))
 (try replace HV3 := Aside0.mk (Kd.C_below HV3.out hb))
 obtain ⟨A12, c12, rfl, hcv, hS⟩ := Kd.S_reads hS
 have HV3 := Aside0.mk hS
 have HL3 := Aside0.mk hcv
 (try clear HGC HGL)
 (try clear HRC HRL)
 clear hb hS hcv
 clear HKC HKL
 have x0 : w12.cell? ⟨b, 0, none⟩ = some (.int .i64 n) := heap_cell HX.out rfl
 have x1 : w12.cell? ⟨b, 1, none⟩ = some (.slice A l.length c) := heap_cell HX.out rfl
 go_wp2_with fail
 clear x0 x1
 refine (tangramref03_Copy.calls k n A c l n l w12 HG.out HCC.out HCG.out).mono ?_
 rintro e' w13 ⟨vg, rfl, hR, hb⟩
 replace HB := Aside0.mk (HB.out.trans (hb.mono HB.out.size))
 replace HX := Aside0.mk ((hb.block _ (lt_of HX.out)).trans HX.out)
 replace HG := Aside0.mk (Kd.C_below HG.out hb)
 replace HR := Aside0.mk (Kd.C_below HR.out hb)
 (try replace HGC := Aside0.mk (Kd.C_below HGC.out hb))
 (try replace HRC := Aside0.mk (Kd.C_below HRC.out hb))
 (try replace HV1 := Aside0.mk (Kd.C_below HV1.out hb))
 (try replace HV2 := Aside0.mk (Kd.C_below HV2.out hb))
 (try replace HV3 := Aside0.mk (Kd.C_below HV3.out hb))
 obtain ⟨Ag, cg, rfl, hcg, hR⟩ := Kd.R_reads hR
 have HGC := Aside0.mk hR
 have HGL := Aside0.mk hcg
 clear hb hR hcg
 go_wp2_with fail
 refine (tangramref11_Copy.calls k A1 c1 r r w13 HR.out HCR.out HCQ.out).mono ?_
 rintro e' w14 ⟨vr, rfl, hS, hb⟩
 replace HB := Aside0.mk (HB.out.trans (hb.mono HB.out.size))
 replace HX := Aside0.mk ((hb.block _ (lt_of HX.out)).trans HX.out)
 replace HG := Aside0.mk (Kd.C_below HG.out hb)
 replace HR := Aside0.mk (Kd.C_below HR.out hb)
 (try replace HGC := Aside0.mk (Kd.C_below HGC.out hb))
 (try replace HRC := Aside0.mk (Kd.C_below HRC.out hb))
 (try replace HV1 := Aside0.mk (Kd.C_below HV1.out hb))
 (try replace HV2 := Aside0.mk (Kd.C_below HV2.out hb))
 (try replace HV3 := Aside0.mk (Kd.C_below HV3.out hb))
 obtain ⟨Ar, cr, rfl, hcr, hS⟩ := Kd.S_reads hS
 have HRC := Aside0.mk hS
 have HRL := Aside0.mk hcr
 clear hb hS hcr
 go_wp2_with fail
 refine (faces_Genus.calls k n Ag cg l Ar cr r ge 0 w14 HGC.out HGL.out HRC.out HRL.out H6.out).mono ?_
 rintro e' w15 ⟨rfl, hb⟩
 replace HB := Aside0.mk (HB.out.trans (hb.mono HB.out.size))
 replace HX := Aside0.mk ((hb.block _ (lt_of HX.out)).trans HX.out)
 replace HG := Aside0.mk (Kd.C_below HG.out hb)
 replace HR := Aside0.mk (Kd.C_below HR.out hb)
 (try replace HGC := Aside0.mk (Kd.C_below HGC.out hb))
 (try replace HRC := Aside0.mk (Kd.C_below HRC.out hb))
 (try replace HV1 := Aside0.mk (Kd.C_below HV1.out hb))
 (try replace HV2 := Aside0.mk (Kd.C_below HV2.out hb))
 (try replace HV3 := Aside0.mk (Kd.C_below HV3.out hb))
 (try clear HGC HGL)
 (try clear HRC HRL)
 clear hb
 have x0 : w15.cell? ⟨b, 0, none⟩ = some (.int .i64 n) := heap_cell HX.out rfl
 have x1 : w15.cell? ⟨b, 1, none⟩ = some (.slice A l.length c) := heap_cell HX.out rfl
 go_wp2_with fail
 clear x0 x1
 refine (tangramref03_Copy.calls k n A c l n l w15 HG.out HCC.out HCG.out).mono ?_
 rintro e' w16 ⟨vg, rfl, hR, hb⟩
 replace HB := Aside0.mk (HB.out.trans (hb.mono HB.out.size))
 replace HX := Aside0.mk ((hb.block _ (lt_of HX.out)).trans HX.out)
 replace HG := Aside0.mk (Kd.C_below HG.out hb)
 replace HR := Aside0.mk (Kd.C_below HR.out hb)
 (try replace HGC := Aside0.mk (Kd.C_below HGC.out hb))
 (try replace HRC := Aside0.mk (Kd.C_below HRC.out hb))
 (try replace HV1 := Aside0.mk (Kd.C_below HV1.out hb))
 (try replace HV2 := Aside0.mk (Kd.C_below HV2.out hb))
 (try replace HV3 := Aside0.mk (Kd.C_below HV3.out hb))
 obtain ⟨Ag, cg, rfl, hcg, hR⟩ := Kd.R_reads hR
 have HGC := Aside0.mk hR
 have HGL := Aside0.mk hcg
 clear hb hR hcg
 go_wp2_with fail
 refine (tangramref11_Copy.calls k A1 c1 r r w16 HR.out HCR.out HCQ.out).mono ?_
 rintro e' w17 ⟨vr, rfl, hS, hb⟩
 replace HB := Aside0.mk (HB.out.trans (hb.mono HB.out.size))
 replace HX := Aside0.mk ((hb.block _ (lt_of HX.out)).trans HX.out)
 replace HG := Aside0.mk (Kd.C_below HG.out hb)
 replace HR := Aside0.mk (Kd.C_below HR.out hb)
 (try replace HGC := Aside0.mk (Kd.C_below HGC.out hb))
 (try replace HRC := Aside0.mk (Kd.C_below HRC.out hb))
 (try replace HV1 := Aside0.mk (Kd.C_below HV1.out hb))
 (try replace HV2 := Aside0.mk (Kd.C_below HV2.out hb))
 (try replace HV3 := Aside0.mk (Kd.C_below HV3.out hb))
 obtain ⟨Ar, cr, rfl, hcr, hS⟩ := Kd.S_reads hS
 have HRC := Aside0.mk hS
 have HRL := Aside0.mk hcr
 clear hb hS hcr
 go_wp2_with fail
 refine (rot_Mirror.calls k Ar cr r rm w17 HRC.out HRL.out H4.out).mono ?_
 rintro e' w18 ⟨vc, rfl, hS, hb⟩
 replace HB := Aside0.mk (HB.out.trans (hb.mono HB.out.size))
 replace HX := Aside0.mk ((hb.block _ (lt_of HX.out)).trans HX.out)
 replace HG := Aside0.mk (Kd.C_below HG.out hb)
 replace HR := Aside0.mk (Kd.C_below HR.out hb)
 (try replace HGC := Aside0.mk (Kd.C_below HGC.out hb))
 (try replace HRC := Aside0.mk (Kd.C_below HRC.out hb))
 (try replace HV1 := Aside0.mk (Kd.C_below HV1.out hb))
 (try replace HV2 := Aside0.mk (Kd.C_below HV2.out hb))
 (try replace HV3 := Aside0.mk (Kd.C_below HV3.out hb))
 obtain ⟨Ac, cc, rfl, hcc, hS⟩ := Kd.S_reads hS
 have HKC := Aside0.mk hS
 have HKL := Aside0.mk hcc
 clear hb hS hcc
 go_wp2_with fail
 refine (faces_Genus.calls k n Ag cg l Ac cc rm ge 0 w18 HGC.out HGL.out HKC.out HKL.out H7.out).mono ?_
 rintro e' w19 ⟨rfl, hb⟩
 replace HB := Aside0.mk (HB.out.trans (hb.mono HB.out.size))
 replace HX := Aside0.mk ((hb.block _ (lt_of HX.out)).trans HX.out)
 replace HG := Aside0.mk (Kd.C_below HG.out hb)
 replace HR := Aside0.mk (Kd.C_below HR.out hb)
 (try replace HGC := Aside0.mk (Kd.C_below HGC.out hb))
 (try replace HRC := Aside0.mk (Kd.C_below HRC.out hb))
 (try replace HV1 := Aside0.mk (Kd.C_below HV1.out hb))
 (try replace HV2 := Aside0.mk (Kd.C_below HV2.out hb))
 (try replace HV3 := Aside0.mk (Kd.C_below HV3.out hb))
 (try clear HGC HGL)
 (try clear HRC HRL)
 clear hb
 clear HKC HKL
 have t2 : (ge != ge) = false := bne_eq_false_iff_eq.2 rfl
 go_wp2_with fail
 refine (tangramref03_SameLists.calls k A4 c4 fs A8 c8 fs true w19 HV1.out HL1.out HV2.out HL2.out H8.out).mono ?_
 rintro e' w20 ⟨rfl, hd⟩
 have hb := hd.below
 replace HB := Aside0.mk (HB.out.trans (hb.mono HB.out.size))
 replace HX := Aside0.mk ((hb.block _ (lt_of HX.out)).trans HX.out)
 replace HG := Aside0.mk (Kd.C_below HG.out hb)
 replace HR := Aside0.mk (Kd.C_below HR.out hb)
 (try replace HGC := Aside0.mk (Kd.C_below HGC.out hb))
 (try replace HRC := Aside0.mk (Kd.C_below HRC.out hb))
 (try replace HV1 := Aside0.mk (Kd.C_below HV1.out hb))
 (try replace HV2 := Aside0.mk (Kd.C_below HV2.out hb))
 (try replace HV3 := Aside0.mk (Kd.C_below HV3.out hb))
 clear hb hd
 clear HV2 HL2
 go_upto_region 12 with (fail)
 have hb : Below w20.heap.size w20 w20.drew := (Below.refl _ _).drew
 replace HB := Aside0.mk (HB.out.trans (hb.mono HB.out.size))
 replace HX := Aside0.mk ((hb.block _ (lt_of HX.out)).trans HX.out)
 replace HG := Aside0.mk (Kd.C_below HG.out hb)
 replace HR := Aside0.mk (Kd.C_below HR.out hb)
 (try replace HGC := Aside0.mk (Kd.C_below HGC.out hb))
 (try replace HRC := Aside0.mk (Kd.C_below HRC.out hb))
 (try replace HV1 := Aside0.mk (Kd.C_below HV1.out hb))
 (try replace HV2 := Aside0.mk (Kd.C_below HV2.out hb))
 (try replace HV3 := Aside0.mk (Kd.C_below HV3.out hb))
 clear hb
 have x1 : w20.drew.cell? ⟨b, 1, none⟩ = some (.slice A l.length c) := heap_cell HX.out rfl
 refine start_ (n := 12) (S := fun w' => w'.cell? ⟨b, 1, none⟩ = some (.slice A l.length c)) (ds := [10]) #[false, false, false, false, false, false, false, false, false, false, false, false] (by kernel_rfl) rfl rfl (x1) (fun hHeld => ?_)
 refine pure_ (i := 0) (N := some 82) (v := ?_) (a' := ?_) #[true, false, false, false, false, false, false, false, false, false, false, false] rfl rfl (by kernel_rfl) (fun _ _ _ h => h) (Or.inl ⟨by rfl, ?_⟩) ?_ ?_
 rotate_left
 · intro w'
   go_simp
   with_reducible rfl
 rotate_left
 · simp only [Act.put, List.setIfInBounds_toArray, List.set_cons_zero, List.set_cons_succ, i64_w, i32_w]
   rfl
 refine pure_ (i := 1) (N := some 83) (v := ?_) (a' := ?_) #[true, true, false, false, false, false, false, false, false, false, false, false] rfl rfl (by kernel_rfl) (fun _ _ _ h => h) (Or.inl ⟨by rfl, ?_⟩) ?_ ?_
 rotate_left
 · intro w'
   go_simp
   with_reducible rfl
 rotate_left
 · simp only [Act.put, List.setIfInBounds_toArray, List.set_cons_zero, List.set_cons_succ, i64_w, i32_w]
   rfl
 refine pure_ (i := 5) (N := some 87) (v := ?_) (a' := ?_) #[true, true, false, false, false, true, false, false, false, false, false, false] rfl rfl (by kernel_rfl) (fun _ _ _ h => h) (Or.inl ⟨by rfl, ?_⟩) ?_ ?_
 rotate_left
 · intro w'
   go_simp
   with_reducible rfl
 rotate_left
 · simp only [Act.put, List.setIfInBounds_toArray, List.set_cons_zero, List.set_cons_succ, i64_w, i32_w]
   rfl
 refine pure_ (i := 6) (N := some 88) (v := ?_) (a' := ?_) #[true, true, false, false, false, true, true, false, false, false, false, false] rfl rfl (by kernel_rfl) (fun _ _ _ h => h) (Or.inl ⟨by rfl, ?_⟩) ?_ ?_
 rotate_left
 · intro w'
   go_simp
   with_reducible rfl
 rotate_left
 · simp only [Act.put, List.setIfInBounds_toArray, List.set_cons_zero, List.set_cons_succ, i64_w, i32_w]
   rfl
 refine take_ (i := 2) (N := some 84) (v := ?_) (a' := ?_) #[true, true, true, false, false, true, true, false, false, false, false, false] rfl rfl (by kernel_rfl) (fun _ _ _ h => h) (Or.inl ⟨by rfl, ?_⟩) hHeld ?_ ?_
 rotate_left
 · intro w' s0
   go_simp
   with_reducible rfl
 rotate_left
 · simp only [Act.put, List.setIfInBounds_toArray, List.set_cons_zero, List.set_cons_succ, i64_w, i32_w]
   rfl
 refine pure_ (i := 3) (N := some 85) (v := ?_) (a' := ?_) #[true, true, true, true, false, true, true, false, false, false, false, false] rfl rfl (by kernel_rfl) (fun _ _ _ h => h) (Or.inl ⟨by rfl, ?_⟩) ?_ ?_
 rotate_left
 · intro w'
   go_simp
   with_reducible rfl
 rotate_left
 · simp only [Act.put, List.setIfInBounds_toArray, List.set_cons_zero, List.set_cons_succ, i64_w, i32_w]
   rfl
 refine take_ (i := 7) (N := some 89) (v := ?_) (a' := ?_) #[true, true, true, true, false, true, true, true, false, false, false, false] rfl rfl (by kernel_rfl) (fun _ _ _ h => h) (Or.inl ⟨by rfl, ?_⟩) hHeld ?_ ?_
 rotate_left
 · intro w' s0
   go_simp
   with_reducible rfl
 rotate_left
 · simp only [Act.put, List.setIfInBounds_toArray, List.set_cons_zero, List.set_cons_succ, i64_w, i32_w]
   rfl
 refine pure_ (i := 8) (N := some 90) (v := ?_) (a' := ?_) #[true, true, true, true, false, true, true, true, true, false, false, false] rfl rfl (by kernel_rfl) (fun _ _ _ h => h) (Or.inl ⟨by rfl, ?_⟩) ?_ ?_
 rotate_left
 · intro w'
   go_simp
   with_reducible rfl
 rotate_left
 · simp only [Act.put, List.setIfInBounds_toArray, List.set_cons_zero, List.set_cons_succ, i64_w, i32_w]
   rfl
 refine one_ (i := 4) (N := some 86) #[true, true, true, true, true, true, true, true, true, false, false, false] rfl rfl (by kernel_rfl) (by decide) (fun K hK => ?_)
 refine goes_ Try.func29 (by kernel_rfl) rfl #[.slice A4 fs.length c4, .int .i64 (l.length : Int)] (by rfl) rfl rfl (by simp only [List.map_toArray, List.map_cons, List.map_nil]; rfl) ?_
 with_reducible refine (tangramlaw12_lengths.calls k A4 c4 fs (l.length : Int) ls _ HV1.out HL1.out H9.out).mono ?_
 rintro e' w22 ⟨va, rfl, hR, hb⟩
 refine ⟨_, rfl, ?_⟩
 replace HB := Aside0.mk (HB.out.trans (hb.mono HB.out.size))
 replace HX := Aside0.mk ((hb.block _ (lt_of HX.out)).trans HX.out)
 replace HV3 := Aside0.mk (Kd.C_below HV3.out hb)
 obtain ⟨Aa, ca, rfl, hca, hR⟩ := Kd.R_reads hR
 have HVA := Aside0.mk hR
 have HLA := Aside0.mk hca
 clear hb hR hca
 refine hK.out _ _ (heap_cell HX.out rfl) (fun hHeld => ?_)
 clear hK K
 refine norm_ (a' := ?_) ?_ ?_
 rotate_left
 · show Act.put _ (some 86) _ = _
   simp only [Act.put, List.setIfInBounds_toArray, List.set_cons_zero, List.set_cons_succ, i64_w, i32_w]
   rfl
 refine one_ (i := 9) (N := some 91) #[true, true, true, true, true, true, true, true, true, true, false, false] rfl rfl (by kernel_rfl) (by decide) (fun K hK => ?_)
 refine goes_ Try.func29 (by kernel_rfl) rfl #[.slice A12 fm.length c12, .int .i64 (l.length : Int)] (by rfl) rfl rfl (by simp only [List.map_toArray, List.map_cons, List.map_nil]; rfl) ?_
 with_reducible refine (tangramlaw12_lengths.calls k A12 c12 fm (l.length : Int) ls _ HV3.out HL3.out H10.out).mono ?_
 rintro e' w23 ⟨vb, rfl, hR, hb⟩
 refine ⟨_, rfl, ?_⟩
 replace HB := Aside0.mk (HB.out.trans (hb.mono HB.out.size))
 replace HX := Aside0.mk ((hb.block _ (lt_of HX.out)).trans HX.out)
 replace HVA := Aside0.mk (Kd.C_below HVA.out hb)
 obtain ⟨Ab, cb, rfl, hcb, hR⟩ := Kd.R_reads hR
 have HVB := Aside0.mk hR
 have HLB := Aside0.mk hcb
 clear hb hR hcb
 refine hK.out _ _ (heap_cell HX.out rfl) (fun hHeld => ?_)
 clear hK K
 refine norm_ (a' := ?_) ?_ ?_
 rotate_left
 · show Act.put _ (some 91) _ = _
   simp only [Act.put, List.setIfInBounds_toArray, List.set_cons_zero, List.set_cons_succ, i64_w, i32_w]
   rfl
 refine last_ (i := 10) (N := some 92) #[true, true, true, true, true, true, true, true, true, true, true, false] rfl rfl (by kernel_rfl) (by decide) (fun K hK => ?_)
 refine goes_ Try.func17 (by kernel_rfl) rfl #[.slice Aa ls.length ca, .slice Ab ls.length cb] (by rfl) rfl rfl (by simp only [List.map_toArray, List.map_cons, List.map_nil]; rfl) ?_
 with_reducible refine (tangramref03_SameInts.calls k Aa ca ls Ab cb ls true _ HVA.out HLA.out HVB.out HLB.out H11.out).mono ?_
 rintro e' w24 ⟨rfl, hd⟩
 refine ⟨_, rfl, ?_⟩
 have hb := hd.below
 replace HB := Aside0.mk (HB.out.trans (hb.mono HB.out.size))
 clear hb hd
 refine hK.out _ _ ?_
 clear hK K
 refine norm_ (a' := ?_) ?_ ?_
 rotate_left
 · show Act.put _ (some 92) _ = _
   simp only [Act.put, List.setIfInBounds_toArray, List.set_cons_zero, List.set_cons_succ, i64_w, i32_w]
   rfl
 refine pure_ (i := 11) (N := some 4) (v := ?_) (a' := ?_) #[true, true, true, true, true, true, true, true, true, true, true, true] rfl rfl (by kernel_rfl) (fun _ _ _ h => h) (Or.inl ⟨by rfl, ?_⟩) ?_ ?_
 rotate_left
 · intro w'
   go_simp
   with_reducible rfl
 rotate_left
 · simp only [Act.put, List.setIfInBounds_toArray, List.set_cons_zero, List.set_cons_succ, i64_w, i32_w]
   rfl
 refine done_ (by kernel_rfl) ?_
 go_wp2_with fail
 go_ret
 exact ⟨by simp, HB.out⟩
theorem FacesTurned (a0_0 : Int) (A0_1 : Option Addr) (c0_1 : Nat) (l0_1 : List Ed) (A1 : Option Addr) (c1 : Nat) (l1 : List (List Int)) (w : World) (hr0_1 : Kd.C k56 w A0_1 l0_1.length l0_1) (hc0_1 : l0_1.length ≤ c0_1) (hr1 : Kd.C (Kd.slice 3 (Kd.int .i64)) w A1 l1.length l1) (hc1 : l1.length ≤ c1)
   (g0 : Open.I64 a0_0 ∧ l0_1.length * 16 ≤ 140737488351232 ∧ ∀ x ∈ l0_1, Open.I64 x.f0 ∧ Open.I64 x.f1) (g1 : l1.length * 24 ≤ 140737488351232 ∧ ∀ x ∈ l1, x.length * 8 ≤ 140737488351232 ∧ ∀ y ∈ x, Open.I64 y) :
   Calls Try.prog 8 #[.agg #[.int .i64 a0_0, .slice A0_1 l0_1.length c0_1], .slice A1 l1.length c1] w fun e w' => e = .returned (.bool true) ∧ Below w.heap.size w w' := by
 have hs : Small l1 := ⟨g1.1, fun l hl => (g1.2 l hl).1⟩
 obtain ⟨K1, q1⟩ := copy3_ev a0_0 l0_1 (by omega)
 obtain ⟨K2, q2⟩ := copy11_ev l1 hs
 obtain ⟨res, h1, h2, h3, h4, h5⟩ := both_check a0_0 l0_1 l1 hs
 by_cases he : res.2 = 0
 · obtain ⟨N, rfl, hg, hr⟩ := h4.1 he
   have hm : IsMap N l0_1 l1 := ⟨hg, hr⟩
   obtain ⟨F, eF, hF⟩ := hm.faces
   obtain ⟨G, eG, hG⟩ := hm.mirror.faces
   have hk1 := hm.check hs
   have hk2 := hm.canon.check hs.turn
   have hk3 := hm.mirror.check hs.rev.turn
   obtain ⟨K3, q3⟩ := of_ok hm hk1
   obtain ⟨K4, q4⟩ := canon_ev hs
   have o2 := of_ok hm.canon hk2
   rw [hm.canon_faces] at o2
   obtain ⟨K5, q5⟩ := o2
   obtain ⟨K6, q6⟩ := mirror_ev hs
   obtain ⟨K7, q7⟩ := of_ok hm.mirror hk3
   obtain ⟨K8, q8⟩ := genus_ok hm hk1
   have o3 := genus_ok hm.mirror hk3
   rw [hm.mirror_genus] at o3
   obtain ⟨K9, q9⟩ := o3
   have hl := hm.lists
   have hl2 := hm.mirror.lists
   have hll := hg.2.2.1
   obtain ⟨K10, q10⟩ := lists_same (facesL (stOf l0_1 l1)) (by omega) (fun x hx => by have := hl.2 x hx; omega)
   have hlen := lens_eq (hm.mirror_faces hF hG) (2 * l0_1.length)
   rw [← eF, ← eG] at hlen
   obtain ⟨K11, q11⟩ := ints_same (a := lensTo (facesL (stOf l0_1 l1)) (2 * l0_1.length) (facesL (stOf l0_1 l1)).length) (by rw [lensTo_length]; omega)
   have fit : ∀ {fs : List (List Int)}, fs.length ≤ 8388608 → (∀ x ∈ fs, x.length ≤ 8388608) → ∀ k, tangramlaw12_lengths.f k fs (l0_1.length : Int) = some (lensTo fs (2 * l0_1.length) fs.length) := fun a b k => by
     unfold tangramlaw12_lengths.f
     rw [if_pos (by
       unfold tangramlaw12_lengths.fit
       simp only [Bool.and_eq_true, decide_eq_true_eq, List.all_eq_true]
       exact ⟨by omega, by omega, by omega, fun x hx => by have := b x hx; omega⟩), Int.toNat_natCast]
   exact turned_ok (K1 + K2 + K3 + K4 + K5 + K6 + K7 + K8 + K9 + K10 + K11) (N : Int) A0_1 c0_1 l0_1 A1 c1 l1 w hr0_1 hc0_1 hr1 hc1 (q1 _ (by omega)) (q2 _ (by omega)) (q3 _ (by omega)) (q4 _ (by omega)) (q5 _ (by omega)) (q6 _ (by omega)) (q7 _ (by omega)) (q8 _ (by omega)) (q9 _ (by omega)) (q10 _ (by omega)) (fit hl.1 hl.2 _) ((fit hl2.1 hl2.2 _).trans (by rw [hlen])) (q11 _ (by omega)) rfl
 · obtain ⟨v, e⟩ := res
   obtain ⟨K3, q3⟩ := of_bad he h1
   exact turned_bad (K1 + K2 + K3) a0_0 A0_1 c0_1 l0_1 A1 c1 l1 w hr0_1 hc0_1 hr1 hc1 (q1 _ (by omega)) (q2 _ (by omega)) (q3 _ (by omega)) he rfl
end Go.Proofs.Ytmikcfddipldnaa.Rot
