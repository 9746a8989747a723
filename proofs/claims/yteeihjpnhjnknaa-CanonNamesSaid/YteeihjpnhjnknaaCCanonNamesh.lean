/- DERIVED. Texts of this seat, one behind the other: lemmas and walks that the statement CanonNames needs. No condition. -/
import Derived.Test.YteeihjpnhjnknaaCCanonNamese
import Derived.Test.YteeihjpnhjnknaaCCanonNamesf
import Derived.Test.YteeihjpnhjnknaaCCanonNamesg
import Derived.Test.YteeihjpnhjnknaaCCanonNamesb
import Derived.Deep.DeepCutAuto
import Derived.Deep.CutRange
namespace Go.Proofs.Yteeihjpnhjnknaa.GAll
open Go.RowKit Go.Proofs.YteeihjpnhjnknaaW.PrintWords Go.Proofs.YteeihjpnhjnknaaW.PrintLast Go.Proofs.YteeihjpnhjnknaaW.PrintMore
attribute [local go_sem] max2_int min2_int max_two min_two max_three min_three max_four min_four   -- for this text's walks alone
set_option linter.unusedVariables false
set_option linter.unusedSimpArgs false
def tangramref21_pairFault.f (k : Nat) (a0_0 : Int) (l0_1 : List S89) (l1 : List (List Int)) (a2_0 : Int) (l2_1 : List S89) (l3 : List (List Int)) : Option Int :=
 (tangramref03_Valid.f k a0_0 l0_1).bind fun v => (tangramref03_Valid.f k a2_0 l2_1).bind fun u => if v = true then (if u = true then
  (tangramref11_Check.f k a0_0 l0_1 l1).bind fun t => if t.2 = 0 then (tangramref11_Check.f k a2_0 l2_1 l3).bind fun s => if s.2 = 0 then (tangramref21_Fault.f k a0_0 l0_1 l1).bind fun a => if a = 0 then tangramref21_Fault.f k a2_0 l2_1 l3 else some a else some s.2 else some t.2 else some 1) else some 1
theorem tangramref21_pairFault.mono : ∀ a0 a1 a2 a3 a4 a5 k, LeO (tangramref21_pairFault.f k a0 a1 a2 a3 a4 a5) (tangramref21_pairFault.f (k + 1) a0 a1 a2 a3 a4 a5) := fun _ _ _ _ _ _ _ =>
 LeO.bind (tangramref03_Valid.mono _ _ _) (fun _ => LeO.bind (tangramref03_Valid.mono _ _ _) (fun _ => LeO.ite (LeO.ite (LeO.bind (tangramref11_Check.mono _ _ _ _) (fun _ => LeO.ite (LeO.bind (tangramref11_Check.mono _ _ _ _) (fun _ => LeO.ite (LeO.bind (tangramref21_Fault.mono _ _ _ _) (fun _ => LeO.ite (tangramref21_Fault.mono _ _ _ _) (LeO.refl _))) (LeO.refl _))) (LeO.refl _))) (LeO.refl _)) (LeO.refl _)))
def tangramref21_Match.out (n1 n2 : Int) (m n : List Int) : Option (List Int × Bool × Int) := if 0 ≤ n1 ∧ n1 ≤ 1048576 ∧ 0 ≤ n2 ∧ n2 ≤ 1048576 ∧ m.length = n1.toNat ∧ n.length = n2.toNat then some (One.putR m n n1.toNat n2.toNat n1.toNat, true, 0) else none
def tangramref21_Match.f (k : Nat) (a0_0 : Int) (l0_1 : List S89) (l1 : List (List Int)) (a2_0 : Int) (l2_1 : List S89) (l3 : List (List Int)) : Option (List Int × Bool × Int) :=
 (tangramref21_pairFault.f k a0_0 l0_1 l1 a2_0 l2_1 l3).bind fun e => if e = 0 then (tangramref21_Best.f k a0_0 l0_1 l1).bind fun a => (tangramref21_Best.f k a2_0 l2_1 l3).bind fun b => (tangramref03_SameInts.f k a.1 b.1).bind fun z =>
  if z = true then (tangramref21_Seen.f k a0_0 l0_1 l1 a.2.1).bind fun m => (tangramref21_Seen.f k a2_0 l2_1 l3 b.2.1).bind fun n => tangramref21_Match.out a0_0 a2_0 m.2 n.2 else some ([], false, 0) else some ([], false, e)
theorem tangramref21_Match.mono : ∀ a0 a1 a2 a3 a4 a5 k, LeO (tangramref21_Match.f k a0 a1 a2 a3 a4 a5) (tangramref21_Match.f (k + 1) a0 a1 a2 a3 a4 a5) := fun _ _ _ _ _ _ _ =>
 LeO.bind (tangramref21_pairFault.mono _ _ _ _ _ _ _) (fun _ => LeO.ite (LeO.bind (tangramref21_Best.mono _ _ _ _) (fun _ => LeO.bind (tangramref21_Best.mono _ _ _ _) (fun _ => LeO.bind (tangramref03_SameInts.mono _ _ _) (fun _ => LeO.ite (LeO.bind (tangramref21_Seen.mono _ _ _ _ _) (fun _ => LeO.bind (tangramref21_Seen.mono _ _ _ _ _) (fun _ => LeO.refl _))) (LeO.refl _))))) (LeO.refl _))
end Go.Proofs.Yteeihjpnhjnknaa.GAll
namespace Go.Proofs.Yteeihjpnhjnknaa.Rot
open Go.RowKit Go.Proofs.YteeihjpnhjnknaaW.PrintWords Go.Proofs.YteeihjpnhjnknaaW.PrintLast Go.Proofs.YteeihjpnhjnknaaW.PrintMore Go.Proofs.Yteeihjpnhjnknaa.GAll Go.Proofs.Yteeihjpnhjnknaa.Mem Go.Proofs.Yteeihjpnhjnknaa.Seen
set_option linter.unusedVariables false
set_option linter.unusedSimpArgs false
theorem putL_at {n : Nat} {x y : List Int} (hx : ∀ i, i < n → 0 ≤ gi x i ∧ gi x i < (n : Int)) (hinj : ∀ i j, i < n → j < n → gi x i = gi x j → i = j) {i0 v : Nat} (h0 : i0 < n) (hv : gi x i0 = (v : Int)) : ∀ k, k ≤ n → gi (Match.putL x y n k) v = if i0 < k then gi y i0 else 0
 | 0, _ => by
  rw [if_neg (by omega)]
  unfold Match.putL gi
  rw [List.getD_eq_getElem?_getD, List.getElem?_replicate]
  split <;> rfl
 | k + 1, hk => by
  show gi ((Match.putL x y n k).set (gi x k).toNat (gi y k)) v = _
  have hvn := hx i0 h0
  rw [gi_set, putL_at hx hinj h0 hv k (by omega), Match.putL_length]
  by_cases e : k = i0
  ·subst e
   rw [if_pos ⟨by omega, by omega⟩, if_pos (by omega)]
  ·have := hx k (by omega)
   rw [if_neg (fun q => e (hinj k i0 (by omega) h0 (by rw [hv]; omega)))]
   by_cases c : i0 < k
   ·rw [if_pos c, if_pos (by omega)]
   ·rw [if_neg c, if_neg (by omega)]
theorem list_gi {x y : List Int} (hl : x.length = y.length) (h : ∀ v, v < x.length → gi x v = gi y v) : x = y := by
 refine List.ext_getElem hl (fun v h1 h2 => ?_)
 have := h v h1
 unfold gi at this
 rw [List.getD_eq_getElem?_getD, List.getD_eq_getElem?_getD, List.getElem?_eq_getElem h1, List.getElem?_eq_getElem h2] at this
 exact this
structure Sum (n : Int) (l : List Ed) (r : List (List Int)) (p : Int) (nx tl : List Int) (e a v : Int) : Prop where
 look : Ev (fun k => canon_look.f k n l r) (p, nx, tl, e, a)
 check : Ev (fun k => tangramref11_Check.f k n l r) (v, e)
 one : e = 1 ↔ ¬ PureV.Good n l
 fault : e = 0 → Ev (fun k => tangramref21_Fault.f k n l r) a
 fine : e = 0 → a = 0 → ∃ N : Nat, n = N ∧ p = N ∧ nx = nxOf l r ∧ tl = toOf l ∧ v = 0 ∧ IsMap N l r ∧ parts N l = 1 ∧ 0 < l.length
theorem sum (n : Int) (l : List Ed) (r : List (List Int)) (hs : Small r) : ∃ p nx tl e a v, Sum n l r p nx tl e a v := by
 cases case n l r hs with
 | bad v e h0 h1 hl hc hf => exact ⟨_, _, _, _, _, v, hl, hc, h1, fun q => absurd q h0, fun q => absurd q h0⟩
 | apart hg hl hc hf => exact ⟨_, _, _, _, _, _, hl, hc, ⟨fun q => absurd q (by decide), fun q => absurd hg q⟩, fun _ => hf, fun _ q => absurd q (by decide)⟩
 | fine N hN hm hp h0 hl hc hf => exact ⟨_, _, _, _, _, _, hl, hc, ⟨fun q => absurd q (by decide), fun q => absurd (by rw [hN]; exact hm.good) q⟩, fun _ => hf, fun _ _ => ⟨N, hN, hN, rfl, rfl, rfl, hm, hp, h0⟩⟩
section
variable {n1 : Int} {l1 : List Ed} {r1 : List (List Int)} {n2 : Int} {l2 : List Ed} {r2 : List (List Int)} {p1 : Int} {nx1 tl1 : List Int} {e1 a1 v1 p2 : Int} {nx2 tl2 : List Int} {e2 a2 v2 : Int}
def errOf (e1 e2 a1 a2 : Int) : Int := if e1 = 1 ∨ e2 = 1 then 1 else Match.firstE [e1, e2, a1, a2]
end
end Go.Proofs.Yteeihjpnhjnknaa.Rot
namespace Go.Proofs.Yteeihjpnhjnknaa.Seen
open Go.RowKit Go.Proofs.YteeihjpnhjnknaaW.PrintWords Go.Proofs.Yteeihjpnhjnknaa.Mem
set_option linter.unusedVariables false
set_option linter.unusedSimpArgs false
section
variable {n : Nat} {nx tos nx' tos' : List Int} {f g : Int → Int}
theorem Ism.comp (h : Ism nx tos nx' tos' f) (k : Aut nx' tos' g) : Ism nx tos nx' tos' (fun x => g (f x)) := by
 refine ⟨fun x hx => k.map _ (h.map x hx), fun x hx => ?_, fun x hx => ?_, fun x y hx hy e => h.inj x y hx hy (k.inj _ _ (h.map x hx) (h.map y hy) e)⟩
 ·show g (f (gi nx x.toNat)) = gi nx' (g (f x)).toNat
  rw [h.next x hx, k.next _ (h.map x hx)]
 ·show g (f (tw x)) = tw (g (f x))
  rw [h.twin x hx, k.twin _ (h.map x hx)]
theorem Ism.onto (hw : Web n nx tos) (hw' : Web n nx' tos') (hs' : Simple nx' tos') (hl : nx.length = nx'.length) (h : Ism nx tos nx' tos' f) {b b' : Nat} (hb : b < nx.length) (hb' : b' < nx'.length) (e : (Seen.all n nx tos (b : Int)).cd = (Seen.all n nx' tos' (b' : Int)).cd) : ∃ g, Ism nx tos nx' tos' g ∧ g (b : Int) = (b' : Int) := by
 have hin : In nx (b : Int) := ⟨by omega, by omega⟩
 obtain ⟨y, hy, hyl⟩ := (h.map _ hin).nat
 have hc := h.code hw hw' hl hin
 rw [hy] at hc
 obtain ⟨g, k1, k2⟩ := iso hw' hs' hyl hb' (hc.trans e)
 exact ⟨_, h.comp k1, by show g (f (b : Int)) = _; rw [hy, k2]⟩
theorem Ism.to_at (hw : Web n nx tos) (hw' : Web n nx' tos') (hl : nx.length = nx'.length) (h : Ism nx tos nx' tos' g) {b b' : Nat} (hb : b < nx.length) (hb' : b' < nx'.length) (e : g (b : Int) = (b' : Int)) {x : Int} (hx : In nx x) :
  gi (Match.putL (Seen.all n nx tos (b : Int)).ord (Seen.all n nx' tos' (b' : Int)).ord n n) (frm tos x).toNat = frm tos' (g x) := by
 have hF := full hw hb
 have hG := full hw' hb'
 have S := h.all hw hw' hl (y := (b : Int)) ⟨by omega, by omega⟩
 rw [e] at S
 have a := hw.fr hx
 have a' := hw'.fr (h.map x hx)
 obtain ⟨i, h1, h2, h3⟩ := hF.inv.b (frm tos x).toNat (by omega) (hF.pos _ (by omega))
 rw [hF.ord] at h1
 obtain ⟨j, g1, g2, g3⟩ := hG.inv.b (frm tos' (g x)).toNat (by omega) (hG.pos _ (by omega))
 have hn := S.num x hx
 rw [g2, h2] at hn
 obtain rfl : j = i := by omega
 rw [Rot.putL_at hF.inO (fun i j a b c => full_inj hF a b c) h1 h3 n (Nat.le_refl _), if_pos h1, g3]
 omega
end
end Go.Proofs.Yteeihjpnhjnknaa.Seen
namespace Go.Proofs.Yteeihjpnhjnknaa.GAll
open Go.RowKit Go.Proofs.YteeihjpnhjnknaaW.PrintWords Go.Proofs.YteeihjpnhjnknaaW.PrintLast Go.Proofs.YteeihjpnhjnknaaW.PrintMore
attribute [local go_sem] max2_int min2_int max_two min_two max_three min_three max_four min_four   -- for this text's walks alone
set_option linter.unusedVariables false
set_option linter.unusedSimpArgs false
def tangramref11_Alike.l0 : Nat → List Int → List Int → Int → Option (Bool)
 | 0, _, _, _ => none
 | k + 1, x0, x1, x5 => if x5 < (x0.length : Int) then (if 0 ≤ x5 then (if x5 < (x1.length : Int) then (if (rd x0 x5) = (rd x1 x5) then (tangramref11_Alike.l0 k x0 x1 (wrap64 (x5 + 1))) else (some false)) else (none)) else (none)) else (some true)
def tangramref11_Alike.f (k : Nat) (l0 : List Int) (l1 : List Int) : Option (Bool) := if (l0.length : Int) = (l1.length : Int) then (tangramref11_Alike.l0 k l0 l1 0) else (some false)
theorem tangramref11_Alike.mono_l : ∀ k, (∀ y0 y1 y2, LeO (tangramref11_Alike.l0 k y0 y1 y2) (tangramref11_Alike.l0 (k + 1) y0 y1 y2))
 | 0 => fun _ _ _ r h => by simp [tangramref11_Alike.l0] at h
 | k + 1 => by
  have ih0 := tangramref11_Alike.mono_l k
  ·intro y0 y1 y2
   unfold tangramref11_Alike.l0
   repeat' first
   | (with_reducible exact ih0 _ _ _)
   | (with_reducible exact LeO.refl _)
   | (with_reducible exact LeO.none _)
   | (with_reducible refine LeO.ite ?_ ?_)
   | (with_reducible refine LeO.bind ?_ (fun _ => ?_))
   | exact ih0 _ _ _
   | exact LeO.none _
   | refine LeO.ite ?_ ?_
   | refine LeO.bind ?_ (fun _ => ?_)
theorem tangramref11_Alike.mono : ∀ a0 a1 k, LeO (tangramref11_Alike.f k a0 a1) (tangramref11_Alike.f (k + 1) a0 a1) := by
 intro a0 a1 k
 have ih0 := tangramref11_Alike.mono_l k
 unfold tangramref11_Alike.f
 repeat' first
   | (with_reducible exact ih0 _ _ _)
   | (with_reducible exact LeO.refl _)
   | (with_reducible exact LeO.none _)
   | (with_reducible refine LeO.ite ?_ ?_)
   | (with_reducible refine LeO.bind ?_ (fun _ => ?_))
   | exact ih0 _ _ _
   | exact LeO.none _
   | refine LeO.ite ?_ ?_
   | refine LeO.bind ?_ (fun _ => ?_)
set_option maxHeartbeats 8000000 in
set_option maxRecDepth 100000 in
theorem tangramref11_Alike.calls (k : Nat) (A0 : Option Addr) (c0 : Nat) (l0 : List Int) (A1 : Option Addr) (c1 : Nat) (l1 : List Int) (r : Bool) (w : World) (hr0 : Kd.C (Kd.int .i64) w A0 l0.length l0) (hc0 : l0.length ≤ c0) (hr1 : Kd.C (Kd.int .i64) w A1 l1.length l1) (hc1 : l1.length ≤ c1) (h : tangramref11_Alike.f k l0 l1 = some r) :
  Calls Try.prog 66 #[.slice A0 l0.length c0, .slice A1 l1.length c1] w fun e w' => e = .returned (.bool r) ∧ Drawn0 w w' := by
 have HR0 := Aside0.mk hr0
 have HC0 := Aside0.mk hc0
 clear hr0 hc0
 have HR1 := Aside0.mk hr1
 have HC1 := Aside0.mk hc1
 clear hr1 hc1
 have H : (if (l0.length : Int) = (l1.length : Int) then (tangramref11_Alike.l0 k l0 l1 0) else (some false)) = some r := h
 clear h
 by_cases c3 : (l0.length : Int) = (l1.length : Int)
 ·rw [if_pos c3] at H
  have c3b0 : ((l0.length : Int) == (l1.length : Int)) = true := beq_iff_eq.mpr c3
  have c3b1 : ((l0.length : Int) != (l1.length : Int)) = false := bne_eq_false_iff_eq.mpr c3
  have c3b2 : (l0.length == l1.length) = true := by first | simpa using c3 | (simp at c3 ⊢; omega)
  clear c3
  have H' := Aside0.mk H
  clear H
  go_enter Try.func66, Try.ntmps66
  go_wp2
  repeat (go_quiet (fail); try go_wp2)
  go_loopg [5] k (fun kq v5 w' => ∃ (x5_1 : Int), v5 = .int .i64 x5_1 ∧ Aside0 (tangramref11_Alike.l0 kq l0 l1 x5_1 = some r) ∧ Aside0 (kq ≤ k) ∧ Drawn0 w w')
  case atStart => exact ⟨(0), (by first | rfl | (simp; done) | (simp [*]; done)), H', ⟨Nat.le_refl _⟩, by repeat (first | exact Drawn0.refl _ | apply Drawn0.step)⟩
  case round =>
   clear H'
   try clear c1
   try clear p2
   try clear c3
   try clear c3b0
   try clear c3b1
   try clear c3b2
   obtain ⟨x5_1, rfl, HA, HK1, ⟨m1, rfl⟩⟩ := hrel
   cases gk with
   | zero => exact absurd HA.out (by simp [tangramref11_Alike.l0])
   | succ k1 =>
    have H := HA.out
    clear HA
    simp only [tangramref11_Alike.l0] at H
    by_cases c4 : x5_1 < (l0.length : Int)
    ·rw [if_pos c4] at H
     have c4b0 : decide (x5_1 < (l0.length : Int)) = true := decide_eq_true c4
     clear c4
     by_cases c5 : 0 ≤ x5_1
     ·rw [if_pos c5] at H
      have c5b0 : decide (0 ≤ x5_1) = true := decide_eq_true c5
      clear c5
      by_cases c6 : x5_1 < (l1.length : Int)
      ·rw [if_pos c6] at H
       have c6b0 : decide (x5_1 < (l1.length : Int)) = true := decide_eq_true c6
       clear c6
       by_cases c7 : (rd l0 x5_1) = (rd l1 x5_1)
       ·rw [if_pos c7] at H
        have c7b0 : ((rd l0 x5_1) == (rd l1 x5_1)) = true := beq_iff_eq.mpr c7
        have c7b1 : ((rd l0 x5_1) != (rd l1 x5_1)) = false := bne_eq_false_iff_eq.mpr c7
        clear c7
        have H' := Aside0.mk H
        clear H
        have p377 : 0 ≤ (x5_1 : Int) := of_decide_eq_true (by first | (with_reducible assumption) | assumption)
        have q377 : x5_1 < (l0.length : Int) := of_decide_eq_true (by first | (with_reducible assumption) | assumption)
        obtain ⟨ad377, e377, hx377_0⟩ := Kd.at_int HR0.out x5_1 p377 q377
        cases e377
        replace p377 := eq_true p377
        replace q377 := eq_true q377
        have p378 : 0 ≤ (x5_1 : Int) := of_decide_eq_true (by first | (with_reducible assumption) | assumption)
        have q378 : x5_1 < (l1.length : Int) := of_decide_eq_true (by first | (with_reducible assumption) | assumption)
        obtain ⟨ad378, e378, hx378_0⟩ := Kd.at_int HR1.out x5_1 p378 q378
        cases e378
        replace p378 := eq_true p378
        replace q378 := eq_true q378
        go_wp2
        repeat (go_quiet (fail); try go_wp2)
        go_roundg k1
        case measure => have := HK1.out; omega
        case rel => exact ⟨(wrap64 (x5_1 + 1)), (by first | rfl | (simp; done) | (simp [*]; done)), H', ⟨by have := HK1.out; omega⟩, by repeat (first | exact Drawn0.refl _ | apply Drawn0.step)⟩
       ·rw [if_neg c7] at H
        have c7b0 : ((rd l0 x5_1) == (rd l1 x5_1)) = false := beq_eq_false_iff_ne.mpr c7
        have c7b1 : ((rd l0 x5_1) != (rd l1 x5_1)) = true := bne_iff_ne.mpr c7
        obtain rfl := Option.some.inj H
        have p377 : 0 ≤ (x5_1 : Int) := of_decide_eq_true (by first | (with_reducible assumption) | assumption)
        have q377 : x5_1 < (l0.length : Int) := of_decide_eq_true (by first | (with_reducible assumption) | assumption)
        obtain ⟨ad377, e377, hx377_0⟩ := Kd.at_int HR0.out x5_1 p377 q377
        cases e377
        replace p377 := eq_true p377
        replace q377 := eq_true q377
        have p378 : 0 ≤ (x5_1 : Int) := of_decide_eq_true (by first | (with_reducible assumption) | assumption)
        have q378 : x5_1 < (l1.length : Int) := of_decide_eq_true (by first | (with_reducible assumption) | assumption)
        obtain ⟨ad378, e378, hx378_0⟩ := Kd.at_int HR1.out x5_1 p378 q378
        cases e378
        replace p378 := eq_true p378
        replace q378 := eq_true q378
        go_wp2
        repeat (go_quiet (fail); try go_wp2)
        go_ret
        exact ⟨by first | rfl | (simp; done) | (simp [*]; done), by repeat (first | exact Drawn0.refl _ | apply Drawn0.step)⟩
      ·rw [if_neg c6] at H
       exact absurd H (by simp)
     ·rw [if_neg c5] at H
      exact absurd H (by simp)
    ·rw [if_neg c4] at H
     have c4b0 : decide (x5_1 < (l0.length : Int)) = false := decide_eq_false c4
     clear c4
     obtain rfl := Option.some.inj H
     go_wp2
     repeat (go_quiet (fail); try go_wp2)
     go_ret
     exact ⟨by first | rfl | (simp; done) | (simp [*]; done), by repeat (first | exact Drawn0.refl _ | apply Drawn0.step)⟩
 ·rw [if_neg c3] at H
  have c3b0 : ((l0.length : Int) == (l1.length : Int)) = false := beq_eq_false_iff_ne.mpr c3
  have c3b1 : ((l0.length : Int) != (l1.length : Int)) = true := bne_iff_ne.mpr c3
  have c3b2 : (l0.length == l1.length) = false := by first | simpa using c3 | (simp at c3 ⊢; omega)
  obtain rfl := Option.some.inj H
  go_enter Try.func66, Try.ntmps66
  go_wp2
  repeat (go_quiet (fail); try go_wp2)
  go_ret
  exact ⟨by first | rfl | (simp; done) | (simp [*]; done), by repeat (first | exact Drawn0.refl _ | apply Drawn0.step)⟩
end Go.Proofs.Yteeihjpnhjnknaa.GAll
namespace Go.Proofs.Yteeihjpnhjnknaa.GAll
open Go.RowKit Go.Proofs.YteeihjpnhjnknaaW.PrintWords Go.Proofs.YteeihjpnhjnknaaW.PrintLast Go.Proofs.YteeihjpnhjnknaaW.PrintMore
attribute [local go_sem] max2_int min2_int max_two min_two max_three min_three max_four min_four   -- for this text's walks alone
set_option linter.unusedVariables false
set_option linter.unusedSimpArgs false
def tangramref11_Turned.l0 : Nat → List Int → Int → List Int → Int → Option (List Int)
 | 0, _, _, _, _ => none
 | k + 1, x0, x1, x5, x6 => if x6 < (x0.length : Int) then (if (x0.length : Int) = 0 then (none) else (if 0 ≤ (Int.tmod (wrap64 (x1 + x6)) (x0.length : Int)) then (if (Int.tmod (wrap64 (x1 + x6)) (x0.length : Int)) < (x0.length : Int) then (if x5.length < 17592186044416 then (tangramref11_Turned.l0 k x0 x1 (x5 ++ [rd x0 (Int.tmod (wrap64 (x1 + x6)) (x0.length : Int))]) (wrap64 (x6 + 1))) else (none)) else (none)) else (none))) else (some x5)
def tangramref11_Turned.f (k : Nat) (l0 : List Int) (a1 : Int) : Option (List Int) := tangramref11_Turned.l0 k l0 a1 ([] : List Int) 0
theorem tangramref11_Turned.mono_l : ∀ k, (∀ y0 y1 y2 y3, LeO (tangramref11_Turned.l0 k y0 y1 y2 y3) (tangramref11_Turned.l0 (k + 1) y0 y1 y2 y3))
 | 0 => fun _ _ _ _ r h => by simp [tangramref11_Turned.l0] at h
 | k + 1 => by
  have ih0 := tangramref11_Turned.mono_l k
  ·intro y0 y1 y2 y3
   unfold tangramref11_Turned.l0
   repeat' first
   | (with_reducible exact ih0 _ _ _ _)
   | (with_reducible exact LeO.refl _)
   | (with_reducible exact LeO.none _)
   | (with_reducible refine LeO.ite ?_ ?_)
   | (with_reducible refine LeO.bind ?_ (fun _ => ?_))
   | exact ih0 _ _ _ _
   | exact LeO.none _
   | refine LeO.ite ?_ ?_
   | refine LeO.bind ?_ (fun _ => ?_)
theorem tangramref11_Turned.mono : ∀ a0 a1 k, LeO (tangramref11_Turned.f k a0 a1) (tangramref11_Turned.f (k + 1) a0 a1) := by
 intro a0 a1 k
 have ih0 := tangramref11_Turned.mono_l k
 unfold tangramref11_Turned.f
 repeat' first
   | (with_reducible exact ih0 _ _ _ _)
   | (with_reducible exact LeO.refl _)
   | (with_reducible exact LeO.none _)
   | (with_reducible refine LeO.ite ?_ ?_)
   | (with_reducible refine LeO.bind ?_ (fun _ => ?_))
   | exact ih0 _ _ _ _
   | exact LeO.none _
   | refine LeO.ite ?_ ?_
   | refine LeO.bind ?_ (fun _ => ?_)
set_option maxHeartbeats 8000000 in
set_option maxRecDepth 100000 in
theorem tangramref11_Turned.calls (k : Nat) (A0 : Option Addr) (c0 : Nat) (l0 : List Int) (a1 : Int) (r : List Int) (w : World) (hr0 : Kd.C (Kd.int .i64) w A0 l0.length l0) (hc0 : l0.length ≤ c0) (h : tangramref11_Turned.f k l0 a1 = some r) :
  Calls Try.prog 67 #[.slice A0 l0.length c0, .int .i64 a1] w fun e w' => ∃ v0_ : Value, e = .returned (v0_) ∧ Kd.R (Kd.int .i64) 3 w' w.heap.size (fun _ => True) v0_ r ∧ Below w.heap.size w w' := by
 have HR0 := Aside0.mk hr0
 have HC0 := Aside0.mk hc0
 clear hr0 hc0
 have HB := Aside0.mk (Below.refl w.heap.size w)
 have H : (tangramref11_Turned.l0 k l0 a1 ([] : List Int) 0) = some r := h
 clear h
 have H' := Aside0.mk H
 clear H
 go_enter Try.func67, Try.ntmps67
 go_wp2
 go_loopg [5, 6] k (fun kq v5 v6 w' => ∃ (x5_1 : List Int) (x6_1 : Int), v6 = .int .i64 x6_1 ∧ Aside0 (tangramref11_Turned.l0 kq l0 a1 x5_1 x6_1 = some r) ∧ Aside0 (kq ≤ k) ∧ Aside0 (Kd.R (Kd.int .i64) 3 w' w.heap.size (fun _ => True) v5 x5_1) ∧ Aside0 (Below w.heap.size w w'))
 case atStart => exact ⟨(([] : List Int)), (0), (by first | rfl | (simp; done) | (simp [*]; done)), H', ⟨Nat.le_refl _⟩, ⟨by first | exact Kd.R_nil _ _ _ _ _ | exact Kd.N_nil _ _ _ _ _ | exact Kd.V_nil _ _ _ _ _ | exact Kd.Q_nil _ _ _ _ _ | exact Kd.S_nil _ _ _ _ _⟩, ⟨by repeat (first | (with_reducible first | exact HB.out | apply below_alloc | apply pw_below_drewN | apply below_drew1) | exact HB.out)⟩⟩
 case round =>
  clear H'
  try clear p2
  obtain ⟨x5_1, x6_1, rfl, HA, HK1, HO_5, HB⟩ := hrel
  cases gk with
  | zero => exact absurd HA.out (by simp [tangramref11_Turned.l0])
  | succ k1 =>
   have H := HA.out
   clear HA
   simp only [tangramref11_Turned.l0] at H
   by_cases c3 : x6_1 < (l0.length : Int)
   ·rw [if_pos c3] at H
    have c3b0 : decide (x6_1 < (l0.length : Int)) = true := decide_eq_true c3
    clear c3
    by_cases c4 : (l0.length : Int) = 0
    ·rw [if_pos c4] at H
     exact absurd H (by simp)
    ·rw [if_neg c4] at H
     have c4b0 : ((l0.length : Int) == 0) = false := beq_eq_false_iff_ne.mpr c4
     have c4b1 : ((l0.length : Int) != 0) = true := bne_iff_ne.mpr c4
     have c4b2 : ¬ (l0 = []) := fun h_ => c4 (by rw [h_]; rfl)
     obtain ⟨ji5, hji5⟩ : ∃ j_ : Int, (Int.tmod (wrap64 (a1 + x6_1)) (l0.length : Int)) = j_ := ⟨_, rfl⟩
     replace H : (if 0 ≤ (ji5) then (if (ji5) < (l0.length : Int) then (if x5_1.length < 17592186044416 then (tangramref11_Turned.l0 k1 l0 a1 (x5_1 ++ [rd l0 (ji5)]) (wrap64 (x6_1 + 1))) else (none)) else (none)) else (none)) = some r := by first | (rw [hji5] at H; exact H) | (simp only [hji5] at H ⊢; exact H)
     by_cases c6 : 0 ≤ (ji5)
     ·rw [if_pos c6] at H
      have c6b0 : decide (0 ≤ (ji5)) = true := decide_eq_true c6
      clear c6
      by_cases c7 : (ji5) < (l0.length : Int)
      ·rw [if_pos c7] at H
       have c7b0 : decide ((ji5) < (l0.length : Int)) = true := decide_eq_true c7
       clear c7
       by_cases c8 : x5_1.length < 17592186044416
       ·rw [if_pos c8] at H
        have LMc8 := Aside0.mk c8
        clear c8
        obtain ⟨y380, hy380⟩ : ∃ y_ : List Int, y_ = (x5_1 ++ [rd l0 (ji5)]) := ⟨_, rfl⟩
        replace H : (tangramref11_Turned.l0 k1 l0 a1 y380 (wrap64 (x6_1 + 1))) = some r := by first | (rw [hy380]; with_reducible exact H) | (have H2_ := (Option.bind_some _ _).symm.trans H; rw [hy380]; with_reducible exact H2_) | (have H2_ := (Option.bind_some _ _).symm.trans H; with_reducible exact H2_) | with_reducible exact H | (rw [hy380]; exact H) | exact H
        have Ny380 := Aside0.mk hy380
        clear hy380
        have H' := Aside0.mk H
        clear H
        have p379 : 0 ≤ ((ji5) : Int) := of_decide_eq_true (by first | (with_reducible assumption) | assumption)
        have q379 : (ji5) < (l0.length : Int) := of_decide_eq_true (by first | (with_reducible assumption) | assumption)
        obtain ⟨ad379, e379, hx379_0⟩ := Kd.at_int HR0.out (ji5) p379 q379
        cases e379
        replace hx379_0 := (HB.out.cell (World.block_lt_of_cell? w _ hx379_0)).trans hx379_0
        replace p379 := eq_true p379
        replace q379 := eq_true q379
        go_wp2_with (first | ((with_reducible refine gate_builtin (b := .append) (xs := #[.tmp 13, .tmp 23]) rfl ?_); at_builtin; refine Kd.R_append (Kd.int .i64) (w0 := w) w.heap.size rfl (.tmp 13) (.tmp 23) 32 3 (.int .i64 0) 8 rfl Try.underlying32 info3 rfl (by decide) (by omega) u5 x5_1 (rd l0 (ji5)) [.int .i64 (rd l0 (ji5))] (fun _ => True) (fun _ => False) rfl rfl ?aP (fun _ hk => hk.elim) ?aF ?aO ?aB ?aS ?aL ?_; (case aP => exact rfl); (case aB => exact (by repeat (first | (with_reducible first | exact HB.out | apply below_alloc | apply pw_below_drewN | apply below_drew1) | exact HB.out))); (case aF => exact (fun _ _ => trivial)); (case aO => exact (by (with_reducible repeat (first | apply Kd.R_alloc | apply Kd.R_drewN | apply Kd.R_drew)); exact HO_5.out)); (case aS => exact (below_size (by repeat (first | (with_reducible first | exact HB.out | apply below_alloc | apply pw_below_drewN | apply below_drew1) | exact HB.out)))); (case aL => have := LMc8.out; omega); intro v381 w9 ho hb hg hat; rw [← Ny380.out] at ho; have n0_ := Aside0.mk (hb); have n1_ := Aside0.mk (ho); clear HB; clear HO_5; have HB := n0_; have HO382 := n1_; clear n0_ n1_; clear ho hb hg hat))
        go_roundg k1
        case measure => have := HK1.out; omega
        case rel => exact ⟨(y380), (wrap64 (x6_1 + 1)), (by first | rfl | (simp; done) | (simp [*]; done)), H', ⟨by have := HK1.out; omega⟩, ⟨by (with_reducible repeat (first | apply Kd.R_alloc | apply Kd.R_drewN | apply Kd.R_drew)); exact HO382.out⟩, ⟨by repeat (first | (with_reducible first | exact HB.out | apply below_alloc | apply pw_below_drewN | apply below_drew1) | exact HB.out)⟩⟩
       ·rw [if_neg c8] at H
        exact absurd H (by simp)
      ·rw [if_neg c7] at H
       exact absurd H (by simp)
     ·rw [if_neg c6] at H
      exact absurd H (by simp)
   ·rw [if_neg c3] at H
    have c3b0 : decide (x6_1 < (l0.length : Int)) = false := decide_eq_false c3
    clear c3
    obtain rfl := Option.some.inj H
    go_wp2
    go_ret
    exact ⟨_, by first | rfl | (simp [errW_none, errW_some] <;> rfl) | (simp [*, errW_none, errW_some] <;> rfl), by (with_reducible repeat (first | apply Kd.R_alloc | apply Kd.R_drewN | apply Kd.R_drew)); exact HO_5.out, by repeat (first | (with_reducible first | exact HB.out | apply below_alloc | apply pw_below_drewN | apply below_drew1) | exact HB.out)⟩
end Go.Proofs.Yteeihjpnhjnknaa.GAll
namespace Go.Proofs.Yteeihjpnhjnknaa.GAll
open Go.RowKit Go.Proofs.YteeihjpnhjnknaaW.PrintWords Go.Proofs.YteeihjpnhjnknaaW.PrintLast Go.Proofs.YteeihjpnhjnknaaW.PrintMore
attribute [local go_sem] max2_int min2_int max_two min_two max_three min_three max_four min_four   -- for this text's walks alone
set_option linter.unusedVariables false
set_option linter.unusedSimpArgs false
def tangramref11_Turn.l0 : Nat → List Int → List Int → Int → Option (Bool)
 | 0, _, _, _ => none
 | k + 1, x0, x1, x5 => if x5 < (x0.length : Int) then ((tangramref11_Turned.f k x0 x5).bind fun t383 => ((tangramref11_Alike.f k t383 x1).bind fun t386 => (if t386 = true then (some true) else (tangramref11_Turn.l0 k x0 x1 (wrap64 (x5 + 1)))))) else (some false)
def tangramref11_Turn.f (k : Nat) (l0 : List Int) (l1 : List Int) : Option (Bool) := if (l0.length : Int) = 0 then (some ((l1.length : Int) == 0)) else (tangramref11_Turn.l0 k l0 l1 0)
theorem tangramref11_Turn.mono_l : ∀ k, (∀ y0 y1 y2, LeO (tangramref11_Turn.l0 k y0 y1 y2) (tangramref11_Turn.l0 (k + 1) y0 y1 y2))
 | 0 => fun _ _ _ r h => by simp [tangramref11_Turn.l0] at h
 | k + 1 => by
  have ih0 := tangramref11_Turn.mono_l k
  ·intro y0 y1 y2
   unfold tangramref11_Turn.l0
   repeat' first
   | (with_reducible exact ih0 _ _ _)
   | (with_reducible exact tangramref11_Alike.mono _ _ _)
   | (with_reducible exact tangramref11_Turned.mono _ _ _)
   | (with_reducible exact LeO.refl _)
   | (with_reducible exact LeO.none _)
   | (with_reducible refine LeO.ite ?_ ?_)
   | (with_reducible refine LeO.bind ?_ (fun _ => ?_))
   | exact ih0 _ _ _
   | exact tangramref11_Alike.mono _ _ _
   | exact tangramref11_Turned.mono _ _ _
   | exact LeO.none _
   | refine LeO.ite ?_ ?_
   | refine LeO.bind ?_ (fun _ => ?_)
theorem tangramref11_Turn.mono : ∀ a0 a1 k, LeO (tangramref11_Turn.f k a0 a1) (tangramref11_Turn.f (k + 1) a0 a1) := by
 intro a0 a1 k
 have ih0 := tangramref11_Turn.mono_l k
 unfold tangramref11_Turn.f
 repeat' first
   | (with_reducible exact ih0 _ _ _)
   | (with_reducible exact tangramref11_Alike.mono _ _ _)
   | (with_reducible exact tangramref11_Turned.mono _ _ _)
   | (with_reducible exact LeO.refl _)
   | (with_reducible exact LeO.none _)
   | (with_reducible refine LeO.ite ?_ ?_)
   | (with_reducible refine LeO.bind ?_ (fun _ => ?_))
   | exact ih0 _ _ _
   | exact tangramref11_Alike.mono _ _ _
   | exact tangramref11_Turned.mono _ _ _
   | exact LeO.none _
   | refine LeO.ite ?_ ?_
   | refine LeO.bind ?_ (fun _ => ?_)
set_option maxHeartbeats 8000000 in
set_option maxRecDepth 100000 in
theorem tangramref11_Turn.calls (k : Nat) (A0 : Option Addr) (c0 : Nat) (l0 : List Int) (A1 : Option Addr) (c1 : Nat) (l1 : List Int) (r : Bool) (w : World) (hr0 : Kd.C (Kd.int .i64) w A0 l0.length l0) (hc0 : l0.length ≤ c0) (hr1 : Kd.C (Kd.int .i64) w A1 l1.length l1) (hc1 : l1.length ≤ c1) (h : tangramref11_Turn.f k l0 l1 = some r) :
  Calls Try.prog 52 #[.slice A0 l0.length c0, .slice A1 l1.length c1] w fun e w' => e = .returned (.bool r) ∧ Below w.heap.size w w' := by
 have HR0 := Aside0.mk hr0
 have HC0 := Aside0.mk hc0
 clear hr0 hc0
 have HR1 := Aside0.mk hr1
 have HC1 := Aside0.mk hc1
 clear hr1 hc1
 have HB := Aside0.mk (Below.refl w.heap.size w)
 have H : (if (l0.length : Int) = 0 then (some ((l1.length : Int) == 0)) else (tangramref11_Turn.l0 k l0 l1 0)) = some r := h
 clear h
 by_cases c3 : (l0.length : Int) = 0
 ·rw [if_pos c3] at H
  have c3b0 : ((l0.length : Int) == 0) = true := beq_iff_eq.mpr c3
  have c3b1 : ((l0.length : Int) != 0) = false := bne_eq_false_iff_eq.mpr c3
  clear c3
  obtain rfl := Option.some.inj H
  go_enter Try.func52, Try.ntmps52
  go_wp2
  go_ret
  exact ⟨by first | rfl | (simp [errW_none, errW_some] <;> rfl) | (simp [*, errW_none, errW_some] <;> rfl), by repeat (first | (with_reducible first | exact HB.out | apply below_alloc | apply pw_below_drewN | apply below_drew1) | exact HB.out)⟩
 ·rw [if_neg c3] at H
  have c3b0 : ((l0.length : Int) == 0) = false := beq_eq_false_iff_ne.mpr c3
  have c3b1 : ((l0.length : Int) != 0) = true := bne_iff_ne.mpr c3
  have c3b2 : ¬ (l0 = []) := fun h_ => c3 (by rw [h_]; rfl)
  have H' := Aside0.mk H
  clear H
  go_enter Try.func52, Try.ntmps52
  go_wp2
  go_loopg [5] k (fun kq v5 w' => ∃ (x5_1 : Int), v5 = .int .i64 x5_1 ∧ Aside0 (tangramref11_Turn.l0 kq l0 l1 x5_1 = some r) ∧ Aside0 (kq ≤ k) ∧ Aside0 (Below w.heap.size w w'))
  case atStart => exact ⟨(0), (by first | rfl | (simp; done) | (simp [*]; done)), H', ⟨Nat.le_refl _⟩, ⟨by repeat (first | (with_reducible first | exact HB.out | apply below_alloc | apply pw_below_drewN | apply below_drew1) | exact HB.out)⟩⟩
  case round =>
   clear H'
   try clear c1
   try clear p2
   try clear c3
   try clear c3b0
   try clear c3b1
   try clear c3b2
   obtain ⟨x5_1, rfl, HA, HK1, HB⟩ := hrel
   cases gk with
   | zero => exact absurd HA.out (by simp [tangramref11_Turn.l0])
   | succ k1 =>
    have H := HA.out
    clear HA
    simp only [tangramref11_Turn.l0] at H
    by_cases c4 : x5_1 < (l0.length : Int)
    ·rw [if_pos c4] at H
     have c4b0 : decide (x5_1 < (l0.length : Int)) = true := decide_eq_true c4
     clear c4
     replace H := Option.bind_eq_some_iff.mp H
     obtain ⟨t383, A50, H⟩ := H
     replace H : ((tangramref11_Alike.f k1 t383 l1).bind fun t386 => (if t386 = true then (some true) else (tangramref11_Turn.l0 k1 l0 l1 (wrap64 (x5_1 + 1))))) = some r := H
     have A5 := Aside0.mk A50
     clear A50
     replace H := Option.bind_eq_some_iff.mp H
     obtain ⟨t386, A60, H⟩ := H
     replace H : (if t386 = true then (some true) else (tangramref11_Turn.l0 k1 l0 l1 (wrap64 (x5_1 + 1)))) = some r := H
     have A6 := Aside0.mk A60
     clear A60
     by_cases c7 : t386 = true
     ·subst c7
      have H1 : (some true) = some r := by rw [if_pos rfl] at H; exact H
      clear H
      have H := H1
      clear H1
      obtain rfl := Option.some.inj H
      go_wp2_with (first | ((with_reducible refine gate_callee (f := 67) rfl ?_); refine goesL_ (some 20) rfl rfl Try.func67 (by kernel_rfl) rfl #[.slice A0 l0.length c0, .int .i64 x5_1] rfl (by (try simp only [List.map_toArray, List.map_cons, List.map_nil]); first | done | rfl | (simp only [List.length_drop, List.length_take]; rfl)) ?_; (with_reducible refine (tangramref11_Turned.calls k1 _ _ l0 x5_1 t383 _ ?side1 ?side2 A5.out).mono ?_); (case side1 => repeat (first | exact (Kd.C_below HR0.out HB.out) | (with_reducible refine Kd.C_alloc ?_ _) | (with_reducible refine Kd.C_drewN ?_ _) | (with_reducible refine Kd.C_drew ?_))); (case side2 => exact HC0.out); rintro e w8 ⟨v384, rfl, ho0, hb⟩; refine ⟨_, rfl, ?_⟩; have n0_ := Aside0.mk (Kd.R_lower ho0 (below_size (by repeat (first | (with_reducible first | exact HB.out | apply below_alloc | apply pw_below_drewN | apply below_drew1) | exact HB.out)))); have n1_ := Aside0.mk (below_step (by repeat (first | (with_reducible first | exact HB.out | apply below_alloc | apply pw_below_drewN | apply below_drew1) | exact HB.out)) hb); clear HB; have HO385 := n0_; have HB := n1_; clear n0_ n1_; (try clear hb); (try clear hb2); (try clear hk); (try clear hi); (try clear ho0); obtain ⟨Ao9, co9, eo9⟩ := Kd.R_slice HO385.out; subst eo9) | ((with_reducible refine gate_callee (f := 66) rfl ?_); refine goesL_ (some 22) rfl rfl Try.func66 (by kernel_rfl) rfl #[.slice Ao9 t383.length co9, .slice A1 l1.length c1] rfl (by (try simp only [List.map_toArray, List.map_cons, List.map_nil]); first | done | rfl | (simp only [List.length_drop, List.length_take]; rfl)) ?_; (with_reducible refine (tangramref11_Alike.calls k1 _ _ t383 _ _ l1 true _ ?side1 ?side2 ?side3 ?side4 A6.out).mono ?_); (case side1 => repeat (first | exact (Kd.R_reads' HO385.out).2.2 | (with_reducible refine Kd.C_alloc ?_ _) | (with_reducible refine Kd.C_drewN ?_ _) | (with_reducible refine Kd.C_drew ?_))); (case side2 => exact (Kd.R_reads' HO385.out).2.1); (case side3 => repeat (first | exact (Kd.C_below HR1.out HB.out) | (with_reducible refine Kd.C_alloc ?_ _) | (with_reducible refine Kd.C_drewN ?_ _) | (with_reducible refine Kd.C_drew ?_))); (case side4 => exact HC1.out); rintro e w' ⟨rfl, ⟨nd, rfl⟩⟩; refine ⟨_, rfl, ?_⟩))
      go_ret
      exact ⟨by first | rfl | (simp [errW_none, errW_some] <;> rfl) | (simp [*, errW_none, errW_some] <;> rfl), by repeat (first | (with_reducible first | exact HB.out | apply below_alloc | apply pw_below_drewN | apply below_drew1) | exact HB.out)⟩
     ·replace c7 := Bool.eq_false_iff.mpr c7
      subst c7
      have H1 : (tangramref11_Turn.l0 k1 l0 l1 (wrap64 (x5_1 + 1))) = some r := by rw [if_neg (show ¬ (false = true) by decide)] at H; exact H
      clear H
      have H := H1
      clear H1
      have H' := Aside0.mk H
      clear H
      go_wp2_with (first | ((with_reducible refine gate_callee (f := 67) rfl ?_); refine goesL_ (some 20) rfl rfl Try.func67 (by kernel_rfl) rfl #[.slice A0 l0.length c0, .int .i64 x5_1] rfl (by (try simp only [List.map_toArray, List.map_cons, List.map_nil]); first | done | rfl | (simp only [List.length_drop, List.length_take]; rfl)) ?_; (with_reducible refine (tangramref11_Turned.calls k1 _ _ l0 x5_1 t383 _ ?side1 ?side2 A5.out).mono ?_); (case side1 => repeat (first | exact (Kd.C_below HR0.out HB.out) | (with_reducible refine Kd.C_alloc ?_ _) | (with_reducible refine Kd.C_drewN ?_ _) | (with_reducible refine Kd.C_drew ?_))); (case side2 => exact HC0.out); rintro e w10 ⟨v384, rfl, ho0, hb⟩; refine ⟨_, rfl, ?_⟩; have n0_ := Aside0.mk (Kd.R_lower ho0 (below_size (by repeat (first | (with_reducible first | exact HB.out | apply below_alloc | apply pw_below_drewN | apply below_drew1) | exact HB.out)))); have n1_ := Aside0.mk (below_step (by repeat (first | (with_reducible first | exact HB.out | apply below_alloc | apply pw_below_drewN | apply below_drew1) | exact HB.out)) hb); clear HB; have HO385 := n0_; have HB := n1_; clear n0_ n1_; (try clear hb); (try clear hb2); (try clear hk); (try clear hi); (try clear ho0); obtain ⟨Ao11, co11, eo11⟩ := Kd.R_slice HO385.out; subst eo11) | ((with_reducible refine gate_callee (f := 66) rfl ?_); refine goesL_ (some 22) rfl rfl Try.func66 (by kernel_rfl) rfl #[.slice Ao11 t383.length co11, .slice A1 l1.length c1] rfl (by (try simp only [List.map_toArray, List.map_cons, List.map_nil]); first | done | rfl | (simp only [List.length_drop, List.length_take]; rfl)) ?_; (with_reducible refine (tangramref11_Alike.calls k1 _ _ t383 _ _ l1 false _ ?side1 ?side2 ?side3 ?side4 A6.out).mono ?_); (case side1 => repeat (first | exact (Kd.R_reads' HO385.out).2.2 | (with_reducible refine Kd.C_alloc ?_ _) | (with_reducible refine Kd.C_drewN ?_ _) | (with_reducible refine Kd.C_drew ?_))); (case side2 => exact (Kd.R_reads' HO385.out).2.1); (case side3 => repeat (first | exact (Kd.C_below HR1.out HB.out) | (with_reducible refine Kd.C_alloc ?_ _) | (with_reducible refine Kd.C_drewN ?_ _) | (with_reducible refine Kd.C_drew ?_))); (case side4 => exact HC1.out); rintro e w' ⟨rfl, ⟨nd, rfl⟩⟩; refine ⟨_, rfl, ?_⟩))
      go_roundg k1
      case measure => have := HK1.out; omega
      case rel => exact ⟨(wrap64 (x5_1 + 1)), (by first | rfl | (simp; done) | (simp [*]; done)), H', ⟨by have := HK1.out; omega⟩, ⟨by repeat (first | (with_reducible first | exact HB.out | apply below_alloc | apply pw_below_drewN | apply below_drew1) | exact HB.out)⟩⟩
    ·rw [if_neg c4] at H
     have c4b0 : decide (x5_1 < (l0.length : Int)) = false := decide_eq_false c4
     clear c4
     obtain rfl := Option.some.inj H
     go_wp2
     go_ret
     exact ⟨by first | rfl | (simp [errW_none, errW_some] <;> rfl) | (simp [*, errW_none, errW_some] <;> rfl), by repeat (first | (with_reducible first | exact HB.out | apply below_alloc | apply pw_below_drewN | apply below_drew1) | exact HB.out)⟩
end Go.Proofs.Yteeihjpnhjnknaa.GAll
namespace Go.Proofs.Yteeihjpnhjnknaa.GAll
open Go.RowKit Go.Proofs.YteeihjpnhjnknaaW.PrintWords Go.Proofs.YteeihjpnhjnknaaW.PrintLast Go.Proofs.YteeihjpnhjnknaaW.PrintMore
attribute [local go_sem] max2_int min2_int max_two min_two max_three min_three max_four min_four   -- for this text's walks alone
set_option linter.unusedVariables false
set_option linter.unusedSimpArgs false
def tangramref11_Same.l0 : Nat → List (List Int) → List (List Int) → Int → Option (Bool)
 | 0, _, _, _ => none
 | k + 1, x0, x1, x5 => if x5 < (x0.length : Int) then (if 0 ≤ x5 then (if x5 < (x1.length : Int) then ((tangramref11_Turn.f k (rd_L5 x0 x5) (rd_L5 x1 x5)).bind fun t389 => (if t389 = true then (tangramref11_Same.l0 k x0 x1 (wrap64 (x5 + 1))) else (some false))) else (none)) else (none)) else (some true)
def tangramref11_Same.f (k : Nat) (l0 : List (List Int)) (l1 : List (List Int)) : Option (Bool) := if (l0.length : Int) = (l1.length : Int) then (tangramref11_Same.l0 k l0 l1 0) else (some false)
theorem tangramref11_Same.mono_l : ∀ k, (∀ y0 y1 y2, LeO (tangramref11_Same.l0 k y0 y1 y2) (tangramref11_Same.l0 (k + 1) y0 y1 y2))
 | 0 => fun _ _ _ r h => by simp [tangramref11_Same.l0] at h
 | k + 1 => by
  have ih0 := tangramref11_Same.mono_l k
  ·intro y0 y1 y2
   unfold tangramref11_Same.l0
   repeat' first
   | (with_reducible exact ih0 _ _ _)
   | (with_reducible exact tangramref11_Turn.mono _ _ _)
   | (with_reducible exact LeO.refl _)
   | (with_reducible exact LeO.none _)
   | (with_reducible refine LeO.ite ?_ ?_)
   | (with_reducible refine LeO.bind ?_ (fun _ => ?_))
   | exact ih0 _ _ _
   | exact tangramref11_Turn.mono _ _ _
   | exact LeO.none _
   | refine LeO.ite ?_ ?_
   | refine LeO.bind ?_ (fun _ => ?_)
theorem tangramref11_Same.mono : ∀ a0 a1 k, LeO (tangramref11_Same.f k a0 a1) (tangramref11_Same.f (k + 1) a0 a1) := by
 intro a0 a1 k
 have ih0 := tangramref11_Same.mono_l k
 unfold tangramref11_Same.f
 repeat' first
   | (with_reducible exact ih0 _ _ _)
   | (with_reducible exact tangramref11_Turn.mono _ _ _)
   | (with_reducible exact LeO.refl _)
   | (with_reducible exact LeO.none _)
   | (with_reducible refine LeO.ite ?_ ?_)
   | (with_reducible refine LeO.bind ?_ (fun _ => ?_))
   | exact ih0 _ _ _
   | exact tangramref11_Turn.mono _ _ _
   | exact LeO.none _
   | refine LeO.ite ?_ ?_
   | refine LeO.bind ?_ (fun _ => ?_)
def tangramref11_Same.T6 : Bool × List (List Nat × List Nat) := (true, [([], []), ([], []), ([0, 1], [0, 1]), ([2], [2]), ([], []), ([], []), ([4, 5], [4, 5]), ([6], [6]), ([3, 7], [3, 7]), ([8], [8])])
def tangramref11_Same.B6 : List Nat := [0, 0, 3, 7, 0, 0, 48, 112, 255, 511]
theorem tangramref11_Same.tab6 : rtab .any (opsOf Try.f29 6) = tangramref11_Same.T6 := by kernel_rfl
theorem tangramref11_Same.bits6 : waitsOk tangramref11_Same.T6.2 tangramref11_Same.B6 = true := by kernel_rfl
set_option maxHeartbeats 8000000 in
set_option maxRecDepth 100000 in
theorem tangramref11_Same.calls (k : Nat) (A0 : Option Addr) (c0 : Nat) (l0 : List (List Int)) (A1 : Option Addr) (c1 : Nat) (l1 : List (List Int)) (r : Bool) (w : World) (hr0 : Kd.C (Kd.slice 3 (Kd.int .i64)) w A0 l0.length l0) (hc0 : l0.length ≤ c0) (hr1 : Kd.C (Kd.slice 3 (Kd.int .i64)) w A1 l1.length l1) (hc1 : l1.length ≤ c1) (h : tangramref11_Same.f k l0 l1 = some r) :
  Calls Try.prog 29 #[.slice A0 l0.length c0, .slice A1 l1.length c1] w fun e w' => e = .returned (.bool r) ∧ Below w.heap.size w w' := by
 have HR0 := Aside0.mk hr0
 have HC0 := Aside0.mk hc0
 clear hr0 hc0
 have HR1 := Aside0.mk hr1
 have HC1 := Aside0.mk hc1
 clear hr1 hc1
 have HB := Aside0.mk (Below.refl w.heap.size w)
 have H : (if (l0.length : Int) = (l1.length : Int) then (tangramref11_Same.l0 k l0 l1 0) else (some false)) = some r := h
 clear h
 by_cases c3 : (l0.length : Int) = (l1.length : Int)
 ·rw [if_pos c3] at H
  have c3b0 : ((l0.length : Int) == (l1.length : Int)) = true := beq_iff_eq.mpr c3
  have c3b1 : ((l0.length : Int) != (l1.length : Int)) = false := bne_eq_false_iff_eq.mpr c3
  have c3b2 : (l0.length == l1.length) = true := by first | simpa using c3 | (simp at c3 ⊢; omega)
  clear c3
  have H' := Aside0.mk H
  clear H
  go_enter Try.func29, Try.ntmps29
  go_wp2
  go_loopg [5] k (fun kq v5 w' => ∃ (x5_1 : Int), v5 = .int .i64 x5_1 ∧ Aside0 (tangramref11_Same.l0 kq l0 l1 x5_1 = some r) ∧ Aside0 (kq ≤ k) ∧ Aside0 (Below w.heap.size w w'))
  case atStart => exact ⟨(0), (by first | rfl | (simp; done) | (simp [*]; done)), H', ⟨Nat.le_refl _⟩, ⟨by repeat (first | (with_reducible first | exact HB.out | apply below_alloc | apply pw_below_drewN | apply below_drew1) | exact HB.out)⟩⟩
  case round =>
   clear H'
   try clear c1
   try clear c2
   try clear p2
   try clear c3
   try clear c3b0
   try clear c3b1
   try clear c3b2
   obtain ⟨x5_1, rfl, HA, HK1, HB⟩ := hrel
   cases gk with
   | zero => exact absurd HA.out (by simp [tangramref11_Same.l0])
   | succ k1 =>
    have H := HA.out
    clear HA
    simp only [tangramref11_Same.l0] at H
    by_cases c4 : x5_1 < (l0.length : Int)
    ·rw [if_pos c4] at H
     have c4b0 : decide (x5_1 < (l0.length : Int)) = true := decide_eq_true c4
     clear c4
     by_cases c5 : 0 ≤ x5_1
     ·rw [if_pos c5] at H
      have c5b0 : decide (0 ≤ x5_1) = true := decide_eq_true c5
      clear c5
      by_cases c6 : x5_1 < (l1.length : Int)
      ·rw [if_pos c6] at H
       have c6b0 : decide (x5_1 < (l1.length : Int)) = true := decide_eq_true c6
       clear c6
       replace H := Option.bind_eq_some_iff.mp H
       obtain ⟨t389, A70, H⟩ := H
       replace H : (if t389 = true then (tangramref11_Same.l0 k1 l0 l1 (wrap64 (x5_1 + 1))) else (some false)) = some r := H
       have A7 := Aside0.mk A70
       clear A70
       by_cases c8 : t389 = true
       ·subst c8
        have H1 : (tangramref11_Same.l0 k1 l0 l1 (wrap64 (x5_1 + 1))) = some r := by rw [if_pos rfl] at H; exact H
        clear H
        have H := H1
        clear H1
        have H' := Aside0.mk H
        clear H
        try go_wp2
        have n0_ := Aside0.mk (below_drew1 HB.out)
        clear HB
        have HB := n0_
        clear n0_
        have p387 : 0 ≤ (x5_1 : Int) := of_decide_eq_true (by first | (with_reducible assumption) | assumption)
        have q387 : x5_1 < (l0.length : Int) := of_decide_eq_true (by first | (with_reducible assumption) | assumption)
        obtain ⟨ad387, A387_0, c387_0, e387, hx387_0, hl387_0, hi387_0⟩ := at_L5 HR0.out x5_1 p387 q387
        have hw387_0 := hx387_0
        cases e387
        replace hx387_0 := (HB.out.cell (World.block_lt_of_cell? w _ hx387_0)).trans hx387_0
        have HR387_0 := Aside0.mk hi387_0
        have HC387_0 := Aside0.mk hl387_0
        clear hi387_0 hl387_0
        replace p387 := eq_true p387
        replace q387 := eq_true q387
        have p388 : 0 ≤ (x5_1 : Int) := of_decide_eq_true (by first | (with_reducible assumption) | assumption)
        have q388 : x5_1 < (l1.length : Int) := of_decide_eq_true (by first | (with_reducible assumption) | assumption)
        obtain ⟨ad388, A388_0, c388_0, e388, hx388_0, hl388_0, hi388_0⟩ := at_L5 HR1.out x5_1 p388 q388
        have hw388_0 := hx388_0
        cases e388
        replace hx388_0 := (HB.out.cell (World.block_lt_of_cell? w _ hx388_0)).trans hx388_0
        have HR388_0 := Aside0.mk hi388_0
        have HC388_0 := Aside0.mk hl388_0
        clear hi388_0 hl388_0
        replace p388 := eq_true p388
        replace q388 := eq_true q388
        refine start_ (n := 10) (S := fun w' => w'.cell? (ad387.add (x5_1).toNat) = some (.slice A387_0 (rd_L5 l0 x5_1).length c387_0) ∧ w'.cell? (ad388.add (x5_1).toNat) = some (.slice A388_0 (rd_L5 l1 x5_1).length c388_0)) (ds := []) #[false, false, false, false, false, false, false, false, false, false] (by kernel_rfl) rfl rfl ⟨((HB.out.cell (World.block_lt_of_cell? w _ hw387_0)).trans hw387_0), ((HB.out.cell (World.block_lt_of_cell? w _ hw388_0)).trans hw388_0)⟩ (fun hHeld => ?_); refine with_tabW tangramref11_Same.tab6 tangramref11_Same.bits6 (fun HT_ HW_ => ?_)
        generalize wr.drew = w9 at HB HR387_0 HR388_0 hx387_0 hx388_0 hHeld ⊢
        refine pure_ (i := 0) (N := some 17) (v := ?_) (a' := ?_) #[true, false, false, false, false, false, false, false, false, false] rfl rfl (any_of HT_.out (by kernel_rfl)) (fun _ _ _ h => h) (Or.inl ⟨by rfl, ?_⟩) ?_ ?_
        rotate_left
        ·intro w'
         go_simp
         with_reducible rfl
        rotate_left
        ·simp only [Act.put, List.setIfInBounds_toArray, List.set_cons_zero, List.set_cons_succ, i64_w, i32_w]
         rfl
        refine pure_ (i := 1) (N := some 18) (v := ?_) (a' := ?_) #[true, true, false, false, false, false, false, false, false, false] rfl rfl (any_of HT_.out (by kernel_rfl)) (fun _ _ _ h => h) (Or.inl ⟨by rfl, ?_⟩) ?_ ?_
        rotate_left
        ·intro w'
         go_simp
         with_reducible rfl
        rotate_left
        ·simp only [Act.put, List.setIfInBounds_toArray, List.set_cons_zero, List.set_cons_succ, i64_w, i32_w]
         rfl
        refine pure_ (i := 2) (N := some 19) (v := ?_) (a' := ?_) #[true, true, true, false, false, false, false, false, false, false] rfl rfl (any_of HT_.out (by kernel_rfl)) (fun _ _ _ h => h) (Or.inl ⟨by rfl, ?_⟩) ?_ ?_
        rotate_left
        ·intro w'
         go_simp
         with_reducible rfl
        rotate_left
        ·simp only [Act.put, List.setIfInBounds_toArray, List.set_cons_zero, List.set_cons_succ, i64_w, i32_w]
         rfl
        refine pure_ (i := 4) (N := some 21) (v := ?_) (a' := ?_) #[true, true, true, false, true, false, false, false, false, false] rfl rfl (any_of HT_.out (by kernel_rfl)) (fun _ _ _ h => h) (Or.inl ⟨by rfl, ?_⟩) ?_ ?_
        rotate_left
        ·intro w'
         go_simp
         with_reducible rfl
        rotate_left
        ·simp only [Act.put, List.setIfInBounds_toArray, List.set_cons_zero, List.set_cons_succ, i64_w, i32_w]
         rfl
        refine pure_ (i := 5) (N := some 22) (v := ?_) (a' := ?_) #[true, true, true, false, true, true, false, false, false, false] rfl rfl (any_of HT_.out (by kernel_rfl)) (fun _ _ _ h => h) (Or.inl ⟨by rfl, ?_⟩) ?_ ?_
        rotate_left
        ·intro w'
         go_simp
         with_reducible rfl
        rotate_left
        ·simp only [Act.put, List.setIfInBounds_toArray, List.set_cons_zero, List.set_cons_succ, i64_w, i32_w]
         rfl
        refine pure_ (i := 6) (N := some 23) (v := ?_) (a' := ?_) #[true, true, true, false, true, true, true, false, false, false] rfl rfl (any_of HT_.out (by kernel_rfl)) (fun _ _ _ h => h) (Or.inl ⟨by rfl, ?_⟩) ?_ ?_
        rotate_left
        ·intro w'
         go_simp
         with_reducible rfl
        rotate_left
        ·simp only [Act.put, List.setIfInBounds_toArray, List.set_cons_zero, List.set_cons_succ, i64_w, i32_w]
         rfl
        refine take_ (i := 3) (N := some 20) (v := ?_) (a' := ?_) #[true, true, true, true, true, true, true, false, false, false] rfl rfl (take_ofW HT_.out HW_.out (by kernel_rfl)) (fun _ _ _ h => h) (Or.inl ⟨by rfl, ?_⟩) hHeld ?_ ?_
        rotate_left
        ·rintro w' ⟨s0, s1⟩
         go_simp
         with_reducible rfl
        rotate_left
        ·simp only [Act.put, List.setIfInBounds_toArray, List.set_cons_zero, List.set_cons_succ, i64_w, i32_w]
         rfl
        refine take_ (i := 7) (N := some 24) (v := ?_) (a' := ?_) #[true, true, true, true, true, true, true, true, false, false] rfl rfl (take_ofW HT_.out HW_.out (by kernel_rfl)) (fun _ _ _ h => h) (Or.inl ⟨by rfl, ?_⟩) hHeld ?_ ?_
        rotate_left
        ·rintro w' ⟨s0, s1⟩
         go_simp
         with_reducible rfl
        rotate_left
        ·simp only [Act.put, List.setIfInBounds_toArray, List.set_cons_zero, List.set_cons_succ, i64_w, i32_w]
         rfl
        refine one_ (i := 8) (N := some 25) #[true, true, true, true, true, true, true, true, true, false] rfl rfl (one_of HT_.out (by kernel_rfl)) (by decide) (fun K hK => ?_)
        refine goes_ Try.func52 (by kernel_rfl) rfl #[.slice A387_0 (rd_L5 l0 x5_1).length c387_0, .slice A388_0 (rd_L5 l1 x5_1).length c388_0] (by rfl) rfl rfl (by (try simp only [List.map_toArray, List.map_cons, List.map_nil]); first | done | rfl | (simp only [List.length_drop, List.length_take]; rfl)) ?_
        with_reducible refine (tangramref11_Turn.calls k1 _ _ (rd_L5 l0 x5_1) _ _ (rd_L5 l1 x5_1) true _ ?side1 ?side2 ?side3 ?side4 A7.out).mono ?_
        (case side1 => repeat (first | exact (Kd.C_below HR387_0.out HB.out) | (with_reducible refine Kd.C_alloc ?_ _) | (with_reducible refine Kd.C_drewN ?_ _) | (with_reducible refine Kd.C_drew ?_)))
        (case side2 => exact HC387_0.out)
        (case side3 => repeat (first | exact (Kd.C_below HR388_0.out HB.out) | (with_reducible refine Kd.C_alloc ?_ _) | (with_reducible refine Kd.C_drewN ?_ _) | (with_reducible refine Kd.C_drew ?_)))
        (case side4 => exact HC388_0.out)
        rintro e w10 ⟨rfl, hb⟩
        refine ⟨_, rfl, ?_⟩
        have n0_ := Aside0.mk (below_step (by repeat (first | (with_reducible first | exact HB.out | apply below_alloc | apply pw_below_drewN | apply below_drew1) | exact HB.out)) hb)
        clear HB
        have HB := n0_
        clear n0_
        (try clear hb)
        (try clear hb2)
        (try clear hk)
        (try clear hi)
        refine hK.out _ _ ⟨((HB.out.cell (World.block_lt_of_cell? w _ hw387_0)).trans hw387_0), ((HB.out.cell (World.block_lt_of_cell? w _ hw388_0)).trans hw388_0)⟩ (fun hHeld => ?_)
        clear hK K
        refine norm_ (a' := ?_) ?_ ?_
        rotate_left
        ·show Act.put _ (some 25) _ = _
         simp only [Act.put, List.setIfInBounds_toArray, List.set_cons_zero, List.set_cons_succ, i64_w, i32_w]
         rfl
        refine pure_ (i := 9) (N := some 26) (v := ?_) (a' := ?_) #[true, true, true, true, true, true, true, true, true, true] rfl rfl (any_of HT_.out (by kernel_rfl)) (fun _ _ _ h => h) (Or.inl ⟨by rfl, ?_⟩) ?_ ?_
        rotate_left
        ·intro w'
         go_simp
         with_reducible rfl
        rotate_left
        ·simp only [Act.put, List.setIfInBounds_toArray, List.set_cons_zero, List.set_cons_succ, i64_w, i32_w]
         rfl
        refine done_ (done_of HT_.out (by kernel_rfl)) ?_
        try go_wp2
        go_roundg k1
        case measure => have := HK1.out; omega
        case rel => exact ⟨(wrap64 (x5_1 + 1)), (by first | rfl | (simp; done) | (simp [*]; done)), H', ⟨by have := HK1.out; omega⟩, ⟨by repeat (first | (with_reducible first | exact HB.out | apply below_alloc | apply pw_below_drewN | apply below_drew1) | exact HB.out)⟩⟩
       ·replace c8 := Bool.eq_false_iff.mpr c8
        subst c8
        have H1 : (some false) = some r := by rw [if_neg (show ¬ (false = true) by decide)] at H; exact H
        clear H
        have H := H1
        clear H1
        obtain rfl := Option.some.inj H
        try go_wp2
        have n0_ := Aside0.mk (below_drew1 HB.out)
        clear HB
        have HB := n0_
        clear n0_
        have p387 : 0 ≤ (x5_1 : Int) := of_decide_eq_true (by first | (with_reducible assumption) | assumption)
        have q387 : x5_1 < (l0.length : Int) := of_decide_eq_true (by first | (with_reducible assumption) | assumption)
        obtain ⟨ad387, A387_0, c387_0, e387, hx387_0, hl387_0, hi387_0⟩ := at_L5 HR0.out x5_1 p387 q387
        have hw387_0 := hx387_0
        cases e387
        replace hx387_0 := (HB.out.cell (World.block_lt_of_cell? w _ hx387_0)).trans hx387_0
        have HR387_0 := Aside0.mk hi387_0
        have HC387_0 := Aside0.mk hl387_0
        clear hi387_0 hl387_0
        replace p387 := eq_true p387
        replace q387 := eq_true q387
        have p388 : 0 ≤ (x5_1 : Int) := of_decide_eq_true (by first | (with_reducible assumption) | assumption)
        have q388 : x5_1 < (l1.length : Int) := of_decide_eq_true (by first | (with_reducible assumption) | assumption)
        obtain ⟨ad388, A388_0, c388_0, e388, hx388_0, hl388_0, hi388_0⟩ := at_L5 HR1.out x5_1 p388 q388
        have hw388_0 := hx388_0
        cases e388
        replace hx388_0 := (HB.out.cell (World.block_lt_of_cell? w _ hx388_0)).trans hx388_0
        have HR388_0 := Aside0.mk hi388_0
        have HC388_0 := Aside0.mk hl388_0
        clear hi388_0 hl388_0
        replace p388 := eq_true p388
        replace q388 := eq_true q388
        refine start_ (n := 10) (S := fun w' => w'.cell? (ad387.add (x5_1).toNat) = some (.slice A387_0 (rd_L5 l0 x5_1).length c387_0) ∧ w'.cell? (ad388.add (x5_1).toNat) = some (.slice A388_0 (rd_L5 l1 x5_1).length c388_0)) (ds := []) #[false, false, false, false, false, false, false, false, false, false] (by kernel_rfl) rfl rfl ⟨((HB.out.cell (World.block_lt_of_cell? w _ hw387_0)).trans hw387_0), ((HB.out.cell (World.block_lt_of_cell? w _ hw388_0)).trans hw388_0)⟩ (fun hHeld => ?_); refine with_tabW tangramref11_Same.tab6 tangramref11_Same.bits6 (fun HT_ HW_ => ?_)
        generalize wr.drew = w11 at HB HR387_0 HR388_0 hx387_0 hx388_0 hHeld ⊢
        refine pure_ (i := 0) (N := some 17) (v := ?_) (a' := ?_) #[true, false, false, false, false, false, false, false, false, false] rfl rfl (any_of HT_.out (by kernel_rfl)) (fun _ _ _ h => h) (Or.inl ⟨by rfl, ?_⟩) ?_ ?_
        rotate_left
        ·intro w'
         go_simp
         with_reducible rfl
        rotate_left
        ·simp only [Act.put, List.setIfInBounds_toArray, List.set_cons_zero, List.set_cons_succ, i64_w, i32_w]
         rfl
        refine pure_ (i := 1) (N := some 18) (v := ?_) (a' := ?_) #[true, true, false, false, false, false, false, false, false, false] rfl rfl (any_of HT_.out (by kernel_rfl)) (fun _ _ _ h => h) (Or.inl ⟨by rfl, ?_⟩) ?_ ?_
        rotate_left
        ·intro w'
         go_simp
         with_reducible rfl
        rotate_left
        ·simp only [Act.put, List.setIfInBounds_toArray, List.set_cons_zero, List.set_cons_succ, i64_w, i32_w]
         rfl
        refine pure_ (i := 2) (N := some 19) (v := ?_) (a' := ?_) #[true, true, true, false, false, false, false, false, false, false] rfl rfl (any_of HT_.out (by kernel_rfl)) (fun _ _ _ h => h) (Or.inl ⟨by rfl, ?_⟩) ?_ ?_
        rotate_left
        ·intro w'
         go_simp
         with_reducible rfl
        rotate_left
        ·simp only [Act.put, List.setIfInBounds_toArray, List.set_cons_zero, List.set_cons_succ, i64_w, i32_w]
         rfl
        refine pure_ (i := 4) (N := some 21) (v := ?_) (a' := ?_) #[true, true, true, false, true, false, false, false, false, false] rfl rfl (any_of HT_.out (by kernel_rfl)) (fun _ _ _ h => h) (Or.inl ⟨by rfl, ?_⟩) ?_ ?_
        rotate_left
        ·intro w'
         go_simp
         with_reducible rfl
        rotate_left
        ·simp only [Act.put, List.setIfInBounds_toArray, List.set_cons_zero, List.set_cons_succ, i64_w, i32_w]
         rfl
        refine pure_ (i := 5) (N := some 22) (v := ?_) (a' := ?_) #[true, true, true, false, true, true, false, false, false, false] rfl rfl (any_of HT_.out (by kernel_rfl)) (fun _ _ _ h => h) (Or.inl ⟨by rfl, ?_⟩) ?_ ?_
        rotate_left
        ·intro w'
         go_simp
         with_reducible rfl
        rotate_left
        ·simp only [Act.put, List.setIfInBounds_toArray, List.set_cons_zero, List.set_cons_succ, i64_w, i32_w]
         rfl
        refine pure_ (i := 6) (N := some 23) (v := ?_) (a' := ?_) #[true, true, true, false, true, true, true, false, false, false] rfl rfl (any_of HT_.out (by kernel_rfl)) (fun _ _ _ h => h) (Or.inl ⟨by rfl, ?_⟩) ?_ ?_
        rotate_left
        ·intro w'
         go_simp
         with_reducible rfl
        rotate_left
        ·simp only [Act.put, List.setIfInBounds_toArray, List.set_cons_zero, List.set_cons_succ, i64_w, i32_w]
         rfl
        refine take_ (i := 3) (N := some 20) (v := ?_) (a' := ?_) #[true, true, true, true, true, true, true, false, false, false] rfl rfl (take_ofW HT_.out HW_.out (by kernel_rfl)) (fun _ _ _ h => h) (Or.inl ⟨by rfl, ?_⟩) hHeld ?_ ?_
        rotate_left
        ·rintro w' ⟨s0, s1⟩
         go_simp
         with_reducible rfl
        rotate_left
        ·simp only [Act.put, List.setIfInBounds_toArray, List.set_cons_zero, List.set_cons_succ, i64_w, i32_w]
         rfl
        refine take_ (i := 7) (N := some 24) (v := ?_) (a' := ?_) #[true, true, true, true, true, true, true, true, false, false] rfl rfl (take_ofW HT_.out HW_.out (by kernel_rfl)) (fun _ _ _ h => h) (Or.inl ⟨by rfl, ?_⟩) hHeld ?_ ?_
        rotate_left
        ·rintro w' ⟨s0, s1⟩
         go_simp
         with_reducible rfl
        rotate_left
        ·simp only [Act.put, List.setIfInBounds_toArray, List.set_cons_zero, List.set_cons_succ, i64_w, i32_w]
         rfl
        refine one_ (i := 8) (N := some 25) #[true, true, true, true, true, true, true, true, true, false] rfl rfl (one_of HT_.out (by kernel_rfl)) (by decide) (fun K hK => ?_)
        refine goes_ Try.func52 (by kernel_rfl) rfl #[.slice A387_0 (rd_L5 l0 x5_1).length c387_0, .slice A388_0 (rd_L5 l1 x5_1).length c388_0] (by rfl) rfl rfl (by (try simp only [List.map_toArray, List.map_cons, List.map_nil]); first | done | rfl | (simp only [List.length_drop, List.length_take]; rfl)) ?_
        with_reducible refine (tangramref11_Turn.calls k1 _ _ (rd_L5 l0 x5_1) _ _ (rd_L5 l1 x5_1) false _ ?side1 ?side2 ?side3 ?side4 A7.out).mono ?_
        (case side1 => repeat (first | exact (Kd.C_below HR387_0.out HB.out) | (with_reducible refine Kd.C_alloc ?_ _) | (with_reducible refine Kd.C_drewN ?_ _) | (with_reducible refine Kd.C_drew ?_)))
        (case side2 => exact HC387_0.out)
        (case side3 => repeat (first | exact (Kd.C_below HR388_0.out HB.out) | (with_reducible refine Kd.C_alloc ?_ _) | (with_reducible refine Kd.C_drewN ?_ _) | (with_reducible refine Kd.C_drew ?_)))
        (case side4 => exact HC388_0.out)
        rintro e w12 ⟨rfl, hb⟩
        refine ⟨_, rfl, ?_⟩
        have n0_ := Aside0.mk (below_step (by repeat (first | (with_reducible first | exact HB.out | apply below_alloc | apply pw_below_drewN | apply below_drew1) | exact HB.out)) hb)
        clear HB
        have HB := n0_
        clear n0_
        (try clear hb)
        (try clear hb2)
        (try clear hk)
        (try clear hi)
        refine hK.out _ _ ⟨((HB.out.cell (World.block_lt_of_cell? w _ hw387_0)).trans hw387_0), ((HB.out.cell (World.block_lt_of_cell? w _ hw388_0)).trans hw388_0)⟩ (fun hHeld => ?_)
        clear hK K
        refine norm_ (a' := ?_) ?_ ?_
        rotate_left
        ·show Act.put _ (some 25) _ = _
         simp only [Act.put, List.setIfInBounds_toArray, List.set_cons_zero, List.set_cons_succ, i64_w, i32_w]
         rfl
        refine pure_ (i := 9) (N := some 26) (v := ?_) (a' := ?_) #[true, true, true, true, true, true, true, true, true, true] rfl rfl (any_of HT_.out (by kernel_rfl)) (fun _ _ _ h => h) (Or.inl ⟨by rfl, ?_⟩) ?_ ?_
        rotate_left
        ·intro w'
         go_simp
         with_reducible rfl
        rotate_left
        ·simp only [Act.put, List.setIfInBounds_toArray, List.set_cons_zero, List.set_cons_succ, i64_w, i32_w]
         rfl
        refine done_ (done_of HT_.out (by kernel_rfl)) ?_
        try go_wp2
        go_ret
        exact ⟨by first | rfl | (simp [errW_none, errW_some] <;> rfl) | (simp [*, errW_none, errW_some] <;> rfl), by repeat (first | (with_reducible first | exact HB.out | apply below_alloc | apply pw_below_drewN | apply below_drew1) | exact HB.out)⟩
      ·rw [if_neg c6] at H
       exact absurd H (by simp)
     ·rw [if_neg c5] at H
      exact absurd H (by simp)
    ·rw [if_neg c4] at H
     have c4b0 : decide (x5_1 < (l0.length : Int)) = false := decide_eq_false c4
     clear c4
     obtain rfl := Option.some.inj H
     go_wp2
     go_ret
     exact ⟨by first | rfl | (simp [errW_none, errW_some] <;> rfl) | (simp [*, errW_none, errW_some] <;> rfl), by repeat (first | (with_reducible first | exact HB.out | apply below_alloc | apply pw_below_drewN | apply below_drew1) | exact HB.out)⟩
 ·rw [if_neg c3] at H
  have c3b0 : ((l0.length : Int) == (l1.length : Int)) = false := beq_eq_false_iff_ne.mpr c3
  have c3b1 : ((l0.length : Int) != (l1.length : Int)) = true := bne_iff_ne.mpr c3
  have c3b2 : (l0.length == l1.length) = false := by first | simpa using c3 | (simp at c3 ⊢; omega)
  obtain rfl := Option.some.inj H
  go_enter Try.func29, Try.ntmps29
  go_wp2
  go_ret
  exact ⟨by first | rfl | (simp [errW_none, errW_some] <;> rfl) | (simp [*, errW_none, errW_some] <;> rfl), by repeat (first | (with_reducible first | exact HB.out | apply below_alloc | apply pw_below_drewN | apply below_drew1) | exact HB.out)⟩
end Go.Proofs.Yteeihjpnhjnknaa.GAll
namespace Go.Proofs.Yteeihjpnhjnknaa.Rot
open Go.RowKit Go.Proofs.YteeihjpnhjnknaaW.PrintWords Go.Proofs.YteeihjpnhjnknaaW.PrintLast Go.Proofs.YteeihjpnhjnknaaW.PrintMore Go.Proofs.Yteeihjpnhjnknaa.GAll Go.Proofs.Yteeihjpnhjnknaa.Mem
set_option linter.unusedVariables false
set_option linter.unusedSimpArgs false
theorem alike_ev {a b : List Int} (hm : a.length ≤ 9223372036854775807) : Ev (fun k => tangramref11_Alike.f k a b) (decide (a = b)) := by
 by_cases h : a.length = b.length
 ·have loop : ∀ (d i : Nat), i + d = a.length → a.take i = b.take i → Ev (fun k => tangramref11_Alike.l0 k a b (i : Int)) (decide (a = b)) := by
   intro d
   induction d with
   | zero =>
    intro i hi ht
    rw [List.take_of_length_le (by omega), List.take_of_length_le (by omega)] at ht
    rw [decide_eq_true ht]
    refine Ev.step (f := fun _ => some true) (fun k => ?_) (Ev.now _)
    simp only [tangramref11_Alike.l0]
    rw [if_neg (by omega)]
   | succ d ih =>
    intro i hi ht
    have hx : i < a.length := by omega
    have hy : i < b.length := by omega
    by_cases e : a[i] = b[i]
    ·refine Ev.step (fun k => ?_) (ih (i + 1) (by omega) (by rw [List.take_succ_eq_append_getElem hx, List.take_succ_eq_append_getElem hy, ht, e]))
     simp only [tangramref11_Alike.l0]
     rw [if_pos (by omega), if_pos (by omega), if_pos (by omega), gi_rd, gi_rd, gi_get hx, gi_get hy, if_pos e, w1 (by omega)]
    ·rw [decide_eq_false (by rintro rfl; exact e rfl)]
     refine Ev.step (f := fun _ => some false) (fun k => ?_) (Ev.now _)
     simp only [tangramref11_Alike.l0]
     rw [if_pos (by omega), if_pos (by omega), if_pos (by omega), gi_rd, gi_rd, gi_get hx, gi_get hy, if_neg e]
  have := loop a.length 0 (by omega) rfl
  unfold tangramref11_Alike.f
  exact Ev.congr (fun k => if_pos (by omega)) this
 ·rw [decide_eq_false (fun e => h (by rw [e]))]
  unfold tangramref11_Alike.f
  exact Ev.congr (fun k => if_neg (by omega)) (Ev.now _)
def turnAt (a : List Int) (k : Nat) : List Int := (List.range a.length).map fun i => gi a ((k + i) % a.length)
theorem turnAt_length (a : List Int) (k : Nat) : (turnAt a k).length = a.length := by unfold turnAt; simp
theorem turnAt_take (a : List Int) (k : Nat) {i : Nat} (hi : i < a.length) : (turnAt a k).take i ++ [gi a ((k + i) % a.length)] = (turnAt a k).take (i + 1) := by
 rw [List.take_succ_eq_append_getElem (by rw [turnAt_length]; exact hi)]
 congr 2
 unfold turnAt
 simp
theorem turned_ev {a : List Int} (hb : a.length ≤ 8388608) {k : Nat} (hk : k < a.length) : Ev (fun K => tangramref11_Turned.f K a (k : Int)) (turnAt a k) := by
 have loop : ∀ (d i : Nat), i + d = a.length → Ev (fun K => tangramref11_Turned.l0 K a (k : Int) ((turnAt a k).take i) (i : Int)) (turnAt a k) := by
  intro d
  induction d with
  | zero =>
   intro i hi
   refine Ev.step (f := fun _ => some _) (fun K => ?_) (Ev.now _)
   simp only [tangramref11_Turned.l0]
   rw [if_neg (by omega), List.take_of_length_le (by rw [turnAt_length]; omega)]
  | succ d ih =>
   intro i hi
   have e1 : wrap64 ((k : Int) + (i : Int)) = ((k + i : Nat) : Int) := by rw [IntWalk.wrap64_in _ (by omega)]; omega
   have e2 : Int.tmod ((k + i : Nat) : Int) (a.length : Int) = (((k + i) % a.length : Nat) : Int) := rfl
   have e3 := Nat.mod_lt (k + i) (show 0 < a.length by omega)
   refine Ev.step (fun K => ?_) (ih (i + 1) (by omega))
   simp only [tangramref11_Turned.l0]
   rw [if_pos (by omega), if_neg (by omega), e1, e2, if_pos (by omega), if_pos (by omega), if_pos (by rw [List.length_take, turnAt_length]; omega), gi_rd, turnAt_take a k (by omega), w1 (by omega)]
 have key := loop a.length 0 (by omega)
 rw [List.take_zero] at key
 exact key
theorem turn_yes {a b : List Int} (hb : a.length ≤ 8388608) {k : Nat} (hk : k < a.length) (e : turnAt a k = b) : Ev (fun K => tangramref11_Turn.f K a b) true := by
 have loop : ∀ (d i : Nat), i + d = k → Ev (fun K => tangramref11_Turn.l0 K a b (i : Int)) true := by
  intro d
  induction d with
  | zero =>
   intro i hi
   obtain rfl : i = k := by omega
   have h1 := alike_ev (a := turnAt a i) (b := b) (by rw [turnAt_length]; omega)
   rw [decide_eq_true e] at h1
   refine Ev.step (f := fun K => (tangramref11_Turned.f K a (i : Int)).bind fun t => (tangramref11_Alike.f K t b).bind fun t2 => if t2 = true then some true else tangramref11_Turn.l0 K a b (wrap64 ((i : Int) + 1))) (fun K => ?_) (Ev.bind (turned_ev hb hk) (Ev.bind h1 (Ev.congr (fun K => if_pos rfl) (Ev.now _))))
   simp only [tangramref11_Turn.l0]
   rw [if_pos (by omega)]
  | succ d ih =>
   intro i hi
   have h1 := alike_ev (a := turnAt a i) (b := b) (by rw [turnAt_length]; omega)
   refine Ev.step (f := fun K => (tangramref11_Turned.f K a (i : Int)).bind fun t => (tangramref11_Alike.f K t b).bind fun t2 => if t2 = true then some true else tangramref11_Turn.l0 K a b (wrap64 ((i : Int) + 1))) (fun K => ?_) (Ev.bind (turned_ev hb (by omega)) (Ev.bind h1 ?_))
   ·simp only [tangramref11_Turn.l0]
    rw [if_pos (by omega)]
   ·by_cases c : turnAt a i = b
    ·exact Ev.congr (fun K => if_pos (decide_eq_true c)) (Ev.now _)
    ·refine Ev.congr (fun K => if_neg (by rw [decide_eq_false c]; decide)) ?_
     have := ih (i + 1) (by omega)
     refine Ev.congr (fun K => ?_) this
     rw [w1 (by omega)]
 unfold tangramref11_Turn.f
 exact Ev.congr (fun K => if_neg (by omega)) (loop k 0 (by omega))
theorem same_yes {x y : List (List Int)} (hl : x.length = y.length) (hb : x.length ≤ 1048576) (h : ∀ v, v < x.length → (gl x v).length ≤ 8388608 ∧ ∃ k, k < (gl x v).length ∧ turnAt (gl x v) k = gl y v) : Ev (fun K => tangramref11_Same.f K x y) true := by
 have rdx : ∀ (r : List (List Int)) (i : Nat), rd_L5 r (i : Int) = gl r i := fun r i => by unfold gl; show r.getD (i : Int).toNat [] = _; rw [Int.toNat_natCast]
 have loop : ∀ (d v : Nat), v + d = x.length → Ev (fun K => tangramref11_Same.l0 K x y (v : Int)) true := by
  intro d
  induction d with
  | zero =>
   intro v hv
   refine Ev.step (f := fun _ => some true) (fun K => ?_) (Ev.now _)
   simp only [tangramref11_Same.l0]
   rw [if_neg (by omega)]
  | succ d ih =>
   intro v hv
   obtain ⟨h1, k, hk, e⟩ := h v (by omega)
   have ht := turn_yes h1 hk e
   refine Ev.step (f := fun K => (tangramref11_Turn.f K (gl x v) (gl y v)).bind fun t => if t = true then tangramref11_Same.l0 K x y ((v + 1 : Nat) : Int) else some false) (fun K => ?_) (Ev.bind ht (Ev.congr (fun K => if_pos rfl) (ih (v + 1) (by omega))))
   simp only [tangramref11_Same.l0]
   rw [if_pos (by omega), if_pos (by omega), if_pos (by omega), rdx, rdx, w1 (by omega)]
 unfold tangramref11_Same.f
 exact Ev.congr (fun K => if_pos (by omega)) (loop x.length 0 (by omega))
end Go.Proofs.Yteeihjpnhjnknaa.Rot
namespace Go.Proofs.Yteeihjpnhjnknaa.Rot
open Go.RowKit Go.Proofs.YteeihjpnhjnknaaW.PrintWords Go.Proofs.YteeihjpnhjnknaaW.PrintLast Go.Proofs.YteeihjpnhjnknaaW.PrintMore Go.Proofs.Yteeihjpnhjnknaa.GAll Go.Proofs.Yteeihjpnhjnknaa.Mem Go.Proofs.Yteeihjpnhjnknaa.Seen Go.Proofs.Yteeihjpnhjnknaa.Mk
set_option linter.unusedVariables false
set_option linter.unusedSimpArgs false
open Classical in
noncomputable def invT (n : Nat) (T : List Int) (u : Nat) : Nat := if h : ∃ i, i < n ∧ gi T i = (u : Int) then Classical.choose h else 0
theorem invT_at {n : Nat} {T : List Int} (h : Nm n T) {u : Nat} (hu : u < n) : invT n T u < n ∧ gi T (invT n T u) = (u : Int) := by
 have hx := h.onto u hu
 have hs := Classical.choose_spec hx
 unfold invT
 rw [dif_pos hx]
 exact hs
theorem invT_of {n : Nat} {T : List Int} (h : Nm n T) {u v : Nat} (hv : v < n) (hu : u < n) (e : gi T v = (u : Int)) : invT n T u = v := by
 obtain ⟨a, b⟩ := invT_at h hu
 exact h.inj _ _ a hv (by rw [b, e])
noncomputable def arT (n : Nat) (l : List Ed) (r : List (List Int)) (T : List Int) : List (List Int) := (List.range n).map fun u => (gl r (invT n T u)).map fun h => gi T (too (toOf l) h).toNat
noncomputable def rT (n : Nat) (r : List (List Int)) (T : List Int) (g : Int → Int) : List (List Int) := (List.range n).map fun u => (gl r (invT n T u)).map g
section
variable {n : Nat} {l l' : List Ed} {r r' : List (List Int)} {T : List Int} {g : Int → Int}
theorem nmT (hm : IsMap n l r) (hp : parts n l = 1) (h0 : 0 < l.length) (hm' : IsMap n l' r') (hp' : parts n l' = 1) (h : Ism (nxOf l r) (toOf l) (nxOf l' r') (toOf l') g) (hl : T.length = n) (hT : ∀ x, In (nxOf l r) x → gi T (frm (toOf l) x).toNat = frm (toOf l') (g x)) : Nm n T := by
 have hw := web hm hp
 have hw' := web hm' hp'
 have at_ : ∀ v, v < n → ∃ x, In (nxOf l r) x ∧ frm (toOf l) x = (v : Int) ∧ gi T v = frm (toOf l') (g x) := fun v hv => by
  obtain ⟨a, b⟩ := row_in hm hv (row_pos hm hp h0 hv)
  have := hT _ a
  rw [b, Int.toNat_natCast] at this
  exact ⟨_, a, b, this⟩
 have hrng : ∀ i, i < n → 0 ≤ gi T i ∧ gi T i < (n : Int) := fun i hi => by
  obtain ⟨x, hx, _, e⟩ := at_ i hi
  rw [e]
  exact hw'.fr (h.map x hx)
 have hinj : ∀ i j, i < n → j < n → gi T i = gi T j → i = j := fun i j hi hj e => by
  obtain ⟨x, hx, a, b⟩ := at_ i hi
  obtain ⟨y, hy, c, d⟩ := at_ j hj
  rw [b, d, h.frm_iff hw hw' hx hy, a, c] at e
  omega
 refine ⟨hl, hrng, hinj, fun u hu => ?_⟩
 by_cases c : ∃ i, i < n ∧ gi T i = (u : Int)
 ·exact c
 ·exfalso
  have hnd : ((List.range n).map fun i => gi T i).Nodup := by
   rw [List.nodup_iff_pairwise_ne, List.pairwise_map]
   refine List.Pairwise.imp_of_mem ?_ (List.pairwise_lt_range (n := n))
   intro i j hi hj hij e
   rw [List.mem_range] at hi hj
   have := hinj i j hi hj e
   omega
  have hle := sub_le ((u : Int) :: (List.range n).map fun i => gi T i) ((List.range n).map fun (i : Nat) => (i : Int)) (List.nodup_cons.2 ⟨fun hx => by
   obtain ⟨i, hi, e⟩ := List.mem_map.1 hx
   exact c ⟨i, List.mem_range.1 hi, e⟩, hnd⟩) (fun x hx => by
   rcases List.mem_cons.1 hx with rfl | hx
   ·exact List.mem_map.2 ⟨u, List.mem_range.2 hu, rfl⟩
   ·obtain ⟨i, hi, rfl⟩ := List.mem_map.1 hx
    have := hrng i (List.mem_range.1 hi)
    exact List.mem_map.2 ⟨(gi T i).toNat, List.mem_range.2 (by omega), by omega⟩)
  simp at hle
  omega
theorem rT_gl (u : Nat) (hu : u < n) : gl (rT n r T g) u = (gl r (invT n T u)).map g := by unfold rT; rw [gl_range _ hu]
theorem rT_map (hm : IsMap n l r) (hp : parts n l = 1) (h0 : 0 < l.length) (hm' : IsMap n l' r') (hp' : parts n l' = 1) (h : Ism (nxOf l r) (toOf l) (nxOf l' r') (toOf l') g) (hT : ∀ x, In (nxOf l r) x → gi T (frm (toOf l) x).toNat = frm (toOf l') (g x)) (hN : Nm n T) : IsMap n l' (rT n r T g) := by
 have hw := web hm hp
 have hw' := web hm' hp'
 have hlen' := hm'.len
 refine ⟨hm'.good, ⟨by unfold rT; simp, fun u hu => ?_, fun u hu x => ?_⟩⟩
 ·rw [rT_gl u hu]
  obtain ⟨a, b⟩ := invT_at hN hu
  have hnd := hm.rot.nodup _ a
  rw [List.nodup_iff_pairwise_ne] at hnd ⊢
  rw [List.pairwise_map]
  refine List.Pairwise.imp_of_mem ?_ hnd
  intro i j hi hj hij e
  obtain ⟨p, hp1, rfl⟩ := List.mem_iff_getElem.1 hi
  obtain ⟨q, hq1, rfl⟩ := List.mem_iff_getElem.1 hj
  rw [← gi_get hp1, ← gi_get hq1] at e hij
  exact hij (h.inj _ _ (row_in hm a hp1).1 (row_in hm a hq1).1 e)
 ·rw [rT_gl u hu, List.mem_map]
  obtain ⟨a, b⟩ := invT_at hN hu
  obtain ⟨v, hv⟩ : ∃ v, v = invT n T u := ⟨_, rfl⟩
  rw [← hv] at a b ⊢
  unfold leaves
  rw [Bool.and_eq_true, Bool.and_eq_true, decide_eq_true_eq, decide_eq_true_eq, beq_iff_eq, frs_length]
  have hpos := row_pos hm hp h0 a
  constructor
  ·rintro ⟨y, hy, rfl⟩
   obtain ⟨p, hp1, rfl⟩ := List.mem_iff_getElem.1 hy
   rw [← gi_get hp1]
   obtain ⟨c, d⟩ := row_in hm a hp1
   obtain ⟨z, z1, z2⟩ := (h.map _ c).nat
   have e := hT _ c
   rw [d, Int.toNat_natCast, b, z1] at e
   rw [z1, Int.toNat_natCast, ← frm_frs hm'.good (by omega)]
   exact ⟨by omega, by omega, e.symm⟩
  ·rintro ⟨h1, h2, h3⟩
   obtain ⟨y, rfl⟩ := Int.eq_ofNat_of_zero_le h1
   rw [Int.toNat_natCast, ← frm_frs hm'.good (by omega)] at h3
   have hy : In (nxOf l' r') (y : Int) := ⟨by omega, by omega⟩
   obtain ⟨c, d⟩ := row_in hm a hpos
   have e := hT _ c
   rw [d, Int.toNat_natCast, b] at e
   obtain ⟨j, _, ej⟩ := hw'.arnd (h.map _ c) hy (by rw [← e, h3])
   rw [← h.it hw c] at ej
   rw [it_at hm.rot (nxOf_next hm.rot) a hpos] at ej
   have hlt := Nat.mod_lt (0 + j) hpos
   exact ⟨_, by rw [gi_get hlt]; exact List.getElem_mem hlt, ej⟩
theorem rT_ar (hm : IsMap n l r) (hp : parts n l = 1) (hm' : IsMap n l' r') (hp' : parts n l' = 1) (h : Ism (nxOf l r) (toOf l) (nxOf l' r') (toOf l') g) (hT : ∀ x, In (nxOf l r) x → gi T (frm (toOf l) x).toNat = frm (toOf l') (g x)) (hN : Nm n T) : arO l' (rT n r T g) = arT n l r T := by
 have hw := web hm hp
 have hw' := web hm' hp'
 unfold arO rT arT
 rw [List.map_map]
 refine List.map_congr_left fun u hu => ?_
 rw [List.mem_range] at hu
 obtain ⟨a, b⟩ := invT_at hN hu
 show ((gl r (invT n T u)).map g).map _ = _
 rw [List.map_map]
 refine List.map_congr_left fun y hy => ?_
 obtain ⟨p, hp1, rfl⟩ := List.mem_iff_getElem.1 hy
 rw [← gi_get hp1]
 have c := (row_in hm a hp1).1
 show too (toOf l') (g _) = _
 rw [h.to hw hw' c, ← hT _ (c.twin hw), hw.ft c]
theorem rT_same (hm : IsMap n l r) (hp : parts n l = 1) (h0 : 0 < l.length) (hm' : IsMap n l' r') (hp' : parts n l' = 1) (hll : l'.length = l.length) (h : Ism (nxOf l r) (toOf l) (nxOf l' r') (toOf l') g) (hT : ∀ x, In (nxOf l r) x → gi T (frm (toOf l) x).toNat = frm (toOf l') (g x)) (hN : Nm n T) : Ev (fun K => tangramref11_Same.f K (rT n r T g) r') true := by
 have hw := web hm hp
 have hw' := web hm' hp'
 have hlT : (rT n r T g).length = n := by unfold rT; simp
 obtain ⟨_, hrl, hrows⟩ := (rT_map hm hp h0 hm' hp' h hT hN).rows
 refine same_yes (by rw [hlT, hm'.rot.len]) hrl fun u hu => ?_
 rw [hlT] at hu
 refine ⟨(hrows _ (by unfold gl; rw [List.getD_eq_getElem?_getD, List.getElem?_eq_getElem (by omega)]; exact List.getElem_mem _)).1, ?_⟩
 rw [rT_gl u hu]
 obtain ⟨a, b⟩ := invT_at hN hu
 obtain ⟨v, hv⟩ : ∃ v, v = invT n T u := ⟨_, rfl⟩
 rw [← hv] at a b ⊢
 have hpos := row_pos hm hp h0 a
 have hpos' := row_pos hm' hp' (by omega) hu
 obtain ⟨c, d⟩ := row_in hm a hpos
 obtain ⟨c', d'⟩ := row_in hm' hu hpos'
 have e := hT _ c
 rw [d, Int.toNat_natCast, b] at e
 obtain ⟨k, hk, ek⟩ := hw'.arnd (h.map _ c) c' (by rw [← e, d'])
 have hlen : (nxOf l r).length = (nxOf l' r').length := by rw [hm.len, hm'.len, hll]
 have hper : per (nxOf l r) (gi (gl r v) 0) = (gl r v).length := per_row hm.rot (nxOf_next hm.rot) a hpos
 have hper' : per (nxOf l' r') (gi (gl r' u) 0) = (gl r' u).length := per_row hm'.rot (nxOf_next hm'.rot) hu hpos'
 rw [h.per hw hlen c, hper] at hk
 rw [← h.it hw c, it_at hm.rot (nxOf_next hm.rot) a hpos, Nat.zero_add, Nat.mod_eq_of_lt hk] at ek
 have ck := (row_in hm a hk).1
 have hperk : per (nxOf l r) (gi (gl r v) k) = (gl r v).length := per_row hm.rot (nxOf_next hm.rot) a hk
 have hll2 : (gl r' u).length = (gl r v).length := by rw [← hper', ← ek, h.per hw hlen ck, hperk]
 refine ⟨k, by rw [List.length_map]; exact hk, ?_⟩
 refine list_gi (by rw [turnAt_length, List.length_map, hll2]) fun i hi => ?_
 rw [turnAt_length, List.length_map] at hi
 have hlt := Nat.mod_lt (k + i) hpos
 unfold turnAt
 rw [List.length_map, gi_range _ hi, gi_map hlt, ← it_at hm.rot (nxOf_next hm.rot) a hk, h.it hw ck, ek, it_at hm'.rot (nxOf_next hm'.rot) hu hpos', Nat.zero_add, Nat.mod_eq_of_lt (by omega)]
end
end Go.Proofs.Yteeihjpnhjnknaa.Rot
namespace Go.Proofs.Yteeihjpnhjnknaa.Mem
open Go.RowKit Go.Proofs.YteeihjpnhjnknaaW.PrintWords Go.Proofs.YteeihjpnhjnknaaW.PrintLast Go.Proofs.YteeihjpnhjnknaaW.PrintMore
set_option linter.unusedVariables false
set_option linter.unusedSimpArgs false
theorem Rows2.app {w w1 : World} {B bo : Nat} {vs : List Value} {gs : List (List Int)} (h : Rows2 w B bo vs gs) {k : Nat} (hk : k < gs.length) {v' : Value} {x : Int}
  (hown : w1.ownsRow B 3 1 v' ((gl gs k).length + 1) (encs (Value.int .i64) (gl gs k) ++ [.int .i64 x])) (hg : w.grownBy w1 (va vs k).ownBlock) (hat : v'.ownBlock = (va vs k).ownBlock ∨ ∃ b, v'.ownBlock = some b ∧ w.heap.size ≤ b) :
  Rows2 (w1.setCell ⟨bo, k, none⟩ v') B bo (vs.set k v') (gs.set k (gl gs k ++ [x])) := by
 have hl := h.len
 have hbo := lt_of h.out
 obtain ⟨f, hf⟩ := h.col
 have ho1 : w1.heap[bo]? = some (.cells vs.toArray 32 (0, 0)) := (hg.block bo hbo (fun e => (hf k hk bo e.symm).2 rfl)).trans h.out
 have hnew : ∀ q, v'.ownBlock = some q → q ≠ bo := by
  intro q hq
  rcases hat with e | ⟨b, e, hb⟩
  ·exact (hf k hk q (e ▸ hq)).2
  ·rw [hq] at e; injection e with e; omega
 refine ⟨by simp [h.len], ?_, ?_, ⟨fun b => if v'.ownBlock = some b then k else f b, ?_⟩, by have := h.base; have := hg.size; simp [World.setCell]; omega⟩
 ·rw [heap_set ho1]; simp
 ·intro j hj
  rw [List.length_set] at hj
  rw [gl_set, va_set]
  by_cases hkj : k = j
  ·subst hkj
   rw [if_pos ⟨rfl, by omega⟩, if_pos ⟨rfl, hj⟩]
   have e1 : encs (Value.int .i64) (gl gs k ++ [x]) = encs (Value.int .i64) (gl gs k) ++ [.int .i64 x] := by simp [encs]
   rw [List.length_append, List.length_singleton, e1]
   exact own_move hown (fun q hq => Below.heap_setCell _ _ _ _ (fun e => hnew q hq (by simpa using e)))
  ·rw [if_neg (by simp [hkj]), if_neg (by simp [hkj])]
   refine own_move (h.own j hj) (fun q hq => ?_)
   have hq2 := (h.own j hj).lt q hq
   rw [Below.heap_setCell _ _ _ _ (fun e => (hf j hj q hq).2 (by simpa using e))]
   exact hg.block q hq2.2 (fun e => hkj (by rw [← (hf k hk q e.symm).1, ← (hf j hj q hq).1]))
 ·intro j hj q hq
  rw [List.length_set] at hj
  rw [va_set] at hq
  by_cases hkj : k = j
  ·subst hkj
   rw [if_pos ⟨rfl, by omega⟩] at hq
   exact ⟨by simp [hq], hnew q hq⟩
  ·rw [if_neg (by simp [hkj])] at hq
   refine ⟨?_, (hf j hj q hq).2⟩
   show (if v'.ownBlock = some q then k else f q) = j
   rw [if_neg (fun e => ?_)]
   ·exact (hf j hj q hq).1
   ·rcases hat with e2 | ⟨b, e2, hb⟩
    ·exact hkj (by rw [← (hf k hk q (e2 ▸ e)).1, ← (hf j hj q hq).1])
    ·rw [e] at e2; injection e2 with e2
     have := ((h.own j hj).lt q hq).2
     omega
theorem Rows2.swap {w : World} {B bo : Nat} {vs : List Value} {gs : List (List Int)} (h : Rows2 w B bo vs gs) {k j : Nat} (hk : k < gs.length) (h0 : 0 < j) (hj : j < (gl gs k).length) :
  ∃ g c, va vs k = .slice (some ⟨g, 0, none⟩) (gl gs k).length c ∧ w.cell? ⟨g, 0, none⟩ = some (.int .i64 (gi (gl gs k) 0)) ∧ w.cell? ⟨g, j, none⟩ = some (.int .i64 (gi (gl gs k) j)) ∧ w.frozen? ⟨g, 0, none⟩ = false ∧ (w.setCell ⟨g, 0, none⟩ (.int .i64 (gi (gl gs k) j))).frozen? ⟨g, j, none⟩ = false ∧ w.frozen? ⟨g, j, none⟩ = false ∧ (w.setCell ⟨g, 0, none⟩ (.int .i64 (gi (gl gs k) j))).cell? ⟨g, j, none⟩ = some (.int .i64 (gi (gl gs k) j)) ∧ B ≤ g ∧ g ≠ bo ∧
   Rows2 ((w.setCell ⟨g, 0, none⟩ (.int .i64 (gi (gl gs k) j))).setCell ⟨g, j, none⟩ (.int .i64 (gi (gl gs k) 0))) B bo vs (gs.set k (((gl gs k).set 0 (gi (gl gs k) j)).set j (gi (gl gs k) 0))) := by
 obtain ⟨f, hf⟩ := h.col
 have ho := h.own k hk
 obtain ⟨row, hrow⟩ : ∃ row, row = gl gs k := ⟨_, rfl⟩
 rw [← hrow] at ho hj ⊢
 have hcell := fun (g : Nat) (hg : (va vs k).ownBlock = some g) (i : Nat) (hi : i < row.length) => ho.cells hg i (.int .i64 (gi row i)) (by unfold encs; rw [List.getElem?_map, gi_of hi]; rfl)
 rcases ho.2 with ⟨_, e2⟩ | ⟨g, cap, cur, e, hB, hh, hn, hm, hs, ht⟩
 ·omega
 ·have hg : (va vs k).ownBlock = some g := by rw [e]; rfl
  have c0 := hcell g hg 0 (by omega)
  have cj := hcell g hg j hj
  rw [add_plain] at c0 cj
  have ho1 := ho
  rw [e] at ho1
  have h1 := own_put_of (enc := Value.int .i64) ho1 ((0 : Nat) : Int) (gi row j)
  rw [Int.toNat_natCast, List.length_set] at h1
  have cj2 := h1.cells (g := g) rfl j (.int .i64 (gi row j)) (by unfold encs; rw [List.getElem?_map, List.getElem?_set, if_neg (by omega), gi_of hj]; rfl)
  rw [add_plain] at cj2
  refine ⟨g, cap, e, c0, cj, heap_free hh 0, heap_free (heap_set hh _) j, heap_free hh j, cj2, hB, (hf k hk g hg).2, ?_⟩
  have h2 := own_put_of (enc := Value.int .i64) (xs := row.set 0 (gi row j)) (cap := cap) (by rw [List.length_set]; exact h1) ((j : Nat) : Int) (gi row 0)
  rw [Int.toNat_natCast] at h2
  refine h.edit (by simp [World.setCell]) hk (fun b hb hne => ?_) (by rw [e]; simp only [List.length_set] at h2 ⊢; exact h2)
  have hbg : b ≠ g := fun e3 => hne (by rw [e3]; exact hg)
  rw [Below.heap_setCell _ _ _ _ (by simpa using hbg), Below.heap_setCell _ _ _ _ (by simpa using hbg)]
end Go.Proofs.Yteeihjpnhjnknaa.Mem
namespace Go.Proofs.Yteeihjpnhjnknaa.Mem
open Go.RowKit Go.Proofs.YteeihjpnhjnknaaW.PrintWords Go.Proofs.YteeihjpnhjnknaaW.PrintLast Go.Proofs.YteeihjpnhjnknaaW.PrintMore
set_option linter.unusedVariables false
set_option linter.unusedSimpArgs false
theorem Rows2.move {w w1 : World} {B bo : Nat} {vs : List Value} {gs : List (List Int)} (h : Rows2 w B bo vs gs) (hs : w.heap.size ≤ w1.heap.size) (ho : w1.heap[bo]? = w.heap[bo]?) (hk : ∀ j, j < gs.length → ∀ q, (va vs j).ownBlock = some q → w1.heap[q]? = w.heap[q]?) : Rows2 w1 B bo vs gs :=
 ⟨h.len, ho.trans h.out, fun j hj => own_move (h.own j hj) (fun q hq => hk j hj q hq), h.col, Nat.le_trans h.base hs⟩
theorem Rows2.lt {w : World} {B bo : Nat} {vs : List Value} {gs : List (List Int)} (h : Rows2 w B bo vs gs) {j q : Nat} (hj : j < gs.length) (hq : (va vs j).ownBlock = some q) : B ≤ q ∧ q < w.heap.size := (h.own j hj).lt q hq
theorem Rows2.over {w w1 : World} {B bo : Nat} {vs : List Value} {gs : List (List Int)} (h : Rows2 w B bo vs gs) {v : Value} (hg : w.grownBy w1 v.ownBlock) (hbo : v.ownBlock ≠ some bo) (hne : ∀ j, j < gs.length → ∀ q, (va vs j).ownBlock = some q → v.ownBlock ≠ some q) : Rows2 w1 B bo vs gs :=
 h.move hg.size (hg.block bo (lt_of h.out) (fun e => hbo e.symm)) (fun j hj q hq => hg.block q (h.lt hj hq).2 (fun e => hne j hj q hq e.symm))
end Go.Proofs.Yteeihjpnhjnknaa.Mem
namespace Go.Proofs.Yteeihjpnhjnknaa.Rot
open Go.RowKit Go.Proofs.YteeihjpnhjnknaaW.PrintWords Go.Proofs.YteeihjpnhjnknaaW.PrintLast Go.Proofs.YteeihjpnhjnknaaW.PrintMore Go.Proofs.Yteeihjpnhjnknaa.GAll Go.Proofs.Yteeihjpnhjnknaa.Mem Go.Proofs.Yteeihjpnhjnknaa.Seen Go.Proofs.Yteeihjpnhjnknaa.Mk
set_option linter.unusedVariables false
set_option linter.unusedSimpArgs false
def rowN (l : List Ed) (r : List (List Int)) (nm order : List Int) (v : Nat) : List Int := (List.range (gl r v).length).map fun j => gi nm (too (toOf l) (gi (gl r v) ((j + shf order (gl r v)) % (gl r v).length))).toNat
theorem rowN_length (l : List Ed) (r : List (List Int)) (nm order : List Int) (v : Nat) : (rowN l r nm order v).length = (gl r v).length := by unfold rowN; simp
noncomputable def gsTo (n : Nat) (l : List Ed) (r : List (List Int)) (nm order : List Int) (v i : Nat) : List (List Int) := (List.range n).map fun u => if invT n nm u < v then rowN l r nm order (invT n nm u) else if invT n nm u = v then (rowN l r nm order v).take i else []
section
variable {n : Nat} {l : List Ed} {r : List (List Int)} {nm order : List Int}
theorem gsTo_length (v i : Nat) : (gsTo n l r nm order v i).length = n := by unfold gsTo; simp
theorem gl_gsTo (v i : Nat) {u : Nat} (hu : u < n) : gl (gsTo n l r nm order v i) u = if invT n nm u < v then rowN l r nm order (invT n nm u) else if invT n nm u = v then (rowN l r nm order v).take i else [] := by unfold gsTo; rw [gl_range _ hu]
theorem rows_gl {x y : List (List Int)} (hl : x.length = y.length) (h : ∀ v, v < x.length → gl x v = gl y v) : x = y := by
 apply List.ext_getElem hl
 intro v h1 h2
 have := h v h1
 unfold gl at this
 rw [List.getD_eq_getElem?_getD, List.getD_eq_getElem?_getD, List.getElem?_eq_getElem h1, List.getElem?_eq_getElem h2] at this
 exact this
theorem gsTo_zero : gsTo n l r nm order 0 0 = List.replicate n [] := by
 refine rows_gl (by rw [gsTo_length]; simp) fun u hu => ?_
 rw [gsTo_length] at hu
 rw [gl_gsTo 0 0 hu, if_neg (by omega)]
 unfold gl
 rw [List.getD_eq_getElem?_getD, List.getElem?_replicate, if_pos hu]
 split <;> rfl
theorem gsTo_next (v : Nat) : gsTo n l r nm order v (gl r v).length = gsTo n l r nm order (v + 1) 0 := by
 refine rows_gl (by rw [gsTo_length, gsTo_length]) fun u hu => ?_
 rw [gsTo_length] at hu
 rw [gl_gsTo _ _ hu, gl_gsTo _ _ hu]
 by_cases h1 : invT n nm u < v
 ·rw [if_pos h1, if_pos (by omega)]
 ·rw [if_neg h1]
  by_cases h2 : invT n nm u = v
  ·rw [if_pos h2, if_pos (by omega), List.take_of_length_le (by rw [rowN_length]; omega), h2]
  ·rw [if_neg h2, if_neg (by omega), List.take_zero]
   split <;> rfl
theorem gsTo_succ (h : Nm n nm) {v i u : Nat} (hv : v < n) (hi : i < (gl r v).length) (hu : u < n) (e : gi nm v = (u : Int)) : (gsTo n l r nm order v i).set u (gl (gsTo n l r nm order v i) u ++ [gi (rowN l r nm order v) i]) = gsTo n l r nm order v (i + 1) := by
 have hinv := invT_of h hv hu e
 refine rows_gl (by rw [List.length_set, gsTo_length, gsTo_length]) fun a ha => ?_
 rw [List.length_set, gsTo_length] at ha
 rw [gl_set, gsTo_length, gl_gsTo _ _ ha, gl_gsTo _ _ ha, gl_gsTo _ _ hu]
 have hi2 : i < (rowN l r nm order v).length := by rw [rowN_length]; exact hi
 by_cases hau : u = a
 ·subst hau
  rw [if_pos ⟨rfl, hu⟩, hinv, if_neg (by omega), if_pos rfl, if_neg (by omega), if_pos rfl, List.take_succ_eq_append_getElem hi2, gi_get hi2]
 ·rw [if_neg (fun q => hau q.1)]
  have hne : invT n nm a ≠ v := fun q => by
   have := (invT_at h ha).2
   rw [q, e] at this
   omega
  rw [if_neg hne, if_neg hne]
theorem gsTo_all (hm : IsMap n l r) (hp : parts n l = 1) (h0 : 0 < l.length) (h : Nm n nm) : gsTo n l r nm order n 0 = renN n (nxOf l r) (toOf l) (fun v => gi nm v.toNat) (nmE n r nm order) := by
 refine rows_gl (by rw [gsTo_length]; unfold renN; simp) fun u hu => ?_
 rw [gsTo_length] at hu
 obtain ⟨a, b⟩ := invT_at h hu
 rw [gl_gsTo _ _ hu, if_pos a, nm_row hm hp h0 h a b hu]
 rfl
def psTo (l : List Ed) (r : List (List Int)) (nm order : List Int) (v i : Nat) : List (Int × Int) := ((List.range v).flatMap fun a => (rowN l r nm order a).map fun x => (gi nm a, x)) ++ ((rowN l r nm order v).take i).map fun x => (gi nm v, x)
theorem psTo_zero : psTo l r nm order 0 0 = [] := by unfold psTo; simp
theorem psTo_succ {v i : Nat} (hi : i < (gl r v).length) : psTo l r nm order v (i + 1) = psTo l r nm order v i ++ [(gi nm v, gi (rowN l r nm order v) i)] := by
 have hi2 : i < (rowN l r nm order v).length := by rw [rowN_length]; exact hi
 unfold psTo
 rw [List.take_succ_eq_append_getElem hi2, List.map_append, List.map_singleton, List.append_assoc, gi_get hi2]
theorem psTo_next (v : Nat) : psTo l r nm order v (gl r v).length = psTo l r nm order (v + 1) 0 := by
 unfold psTo
 rw [List.take_of_length_le (by rw [rowN_length]; exact Nat.le_refl _), List.range_succ, List.flatMap_append, List.flatMap_singleton]
 simp
theorem psTo_prs (hm : IsMap n l r) (hp : parts n l = 1) (h0 : 0 < l.length) (h : Nm n nm) : Prs (nxOf l r) (toOf l) (fun v => gi nm v.toNat) (psTo l r nm order n 0) := by
 have hR := nm_ren (order := order) hm hp h0 h
 have hP := ren_prs hm hp hR
 intro p
 rw [← hP p, ← gsTo_all hm hp h0 h]
 have hmp := mem_prs (rows := gsTo n l r nm order n 0) (p := p)
 rw [gsTo_length] at hmp
 rw [hmp]
 unfold psTo
 rw [List.take_zero, List.map_nil, List.append_nil, List.mem_flatMap]
 constructor
 ·rintro ⟨v, hv, hx⟩
  rw [List.mem_range] at hv
  rw [List.mem_map] at hx
  obtain ⟨x, hx, rfl⟩ := hx
  obtain ⟨j, hj, rfl⟩ := List.mem_iff_getElem.1 hx
  have a := h.rng v hv
  obtain ⟨u, hu⟩ := Int.eq_ofNat_of_zero_le a.1
  have hun : u < n := by omega
  have hinv := invT_of h hv hun hu
  refine ⟨u, j, hun, ?_, ?_⟩
  ·rw [gl_gsTo _ _ hun, hinv, if_pos hv]; exact hj
  ·rw [gl_gsTo _ _ hun, hinv, if_pos hv, gi_get hj, hu]
 ·rintro ⟨u, j, hu, hj, rfl⟩
  obtain ⟨a, b⟩ := invT_at h hu
  rw [gl_gsTo _ _ hu, if_pos a] at hj ⊢
  exact ⟨_, List.mem_range.2 a, List.mem_map.2 ⟨_, List.getElem_mem hj, by rw [gi_get hj, b]⟩⟩
end
end Go.Proofs.Yteeihjpnhjnknaa.Rot
namespace Go.Proofs.Yteeihjpnhjnknaa.GAll
open Go.RowKit Go.Proofs.YteeihjpnhjnknaaW.PrintWords Go.Proofs.YteeihjpnhjnknaaW.PrintLast Go.Proofs.YteeihjpnhjnknaaW.PrintMore
attribute [local go_sem] max2_int min2_int max_two min_two max_three min_three max_four min_four   -- for this text's walks alone
set_option linter.unusedVariables false
set_option linter.unusedSimpArgs false
def tangramref03_To.f (a0_0 : Int) (l0_1 : List (S89)) (a1 : Int) : Option (Int) := if (Int.tmod a1 2) = 0 then (if 0 ≤ (wrap64 (Int.tdiv a1 2)) then (if (wrap64 (Int.tdiv a1 2)) < (l0_1.length : Int) then (some ((rd_T89 l0_1 (wrap64 (Int.tdiv a1 2))).f1)) else (none)) else (none)) else (if 0 ≤ (wrap64 (Int.tdiv a1 2)) then (if (wrap64 (Int.tdiv a1 2)) < (l0_1.length : Int) then (some ((rd_T89 l0_1 (wrap64 (Int.tdiv a1 2))).f0)) else (none)) else (none))
set_option maxHeartbeats 8000000 in
set_option maxRecDepth 100000 in
theorem tangramref03_To.calls (a0_0 : Int) (A0_1 : Option Addr) (c0_1 : Nat) (l0_1 : List (S89)) (a1 : Int) (r : Int) (w : World) (hr0_1 : Kd.C k89 w A0_1 l0_1.length l0_1) (hc0_1 : l0_1.length ≤ c0_1) (h : tangramref03_To.f a0_0 l0_1 a1 = some r) :
  Calls Try.prog 27 #[.agg #[.int .i64 a0_0, .slice A0_1 l0_1.length c0_1], .int .i64 a1] w fun e w' => e = .returned (.int .i64 r) ∧ Below w.heap.size w w' := by
 have hu24 := Try.underlying24
 have HR0_1 := Aside0.mk hr0_1
 have HC0_1 := Aside0.mk hc0_1
 clear hr0_1 hc0_1
 have HB := Aside0.mk (Below.refl w.heap.size w)
 have H : (if (Int.tmod a1 2) = 0 then (if 0 ≤ (wrap64 (Int.tdiv a1 2)) then (if (wrap64 (Int.tdiv a1 2)) < (l0_1.length : Int) then (some ((rd_T89 l0_1 (wrap64 (Int.tdiv a1 2))).f1)) else (none)) else (none)) else (if 0 ≤ (wrap64 (Int.tdiv a1 2)) then (if (wrap64 (Int.tdiv a1 2)) < (l0_1.length : Int) then (some ((rd_T89 l0_1 (wrap64 (Int.tdiv a1 2))).f0)) else (none)) else (none))) = some r := h
 clear h
 by_cases c3 : (Int.tmod a1 2) = 0
 ·rw [if_pos c3] at H
  have c3b0 : ((Int.tmod a1 2) == 0) = true := beq_iff_eq.mpr c3
  have c3b1 : ((Int.tmod a1 2) != 0) = false := bne_eq_false_iff_eq.mpr c3
  clear c3
  obtain ⟨ji4, hji4⟩ : ∃ j_ : Int, (wrap64 (Int.tdiv a1 2)) = j_ := ⟨_, rfl⟩
  replace H : (if 0 ≤ (ji4) then (if (ji4) < (l0_1.length : Int) then (some ((rd_T89 l0_1 (ji4)).f1)) else (none)) else (none)) = some r := by first | (rw [hji4] at H; exact H) | (simp only [hji4] at H ⊢; exact H)
  have hji4w : (IntKind.i64.wrap (Int.tdiv a1 2)) = ji4 := (i64_w _).trans hji4
  by_cases c5 : 0 ≤ (ji4)
  ·rw [if_pos c5] at H
   have c5b0 : decide (0 ≤ (ji4)) = true := decide_eq_true c5
   clear c5
   by_cases c6 : (ji4) < (l0_1.length : Int)
   ·rw [if_pos c6] at H
    have c6b0 : decide ((ji4) < (l0_1.length : Int)) = true := decide_eq_true c6
    clear c6
    obtain rfl := Option.some.inj H
    go_enter Try.func27, Try.ntmps27
    go_wp2_with (first | ((with_reducible refine gate_dst (N := 2) rfl ?_); refine box_event ?hg (N := 2) ?hd (cs := #[.int .i64 a0_0, .slice A0_1 l0_1.length c0_1]) (t := 24) ?hr ?_; (case hd => rfl); (case hg => rfl); (case hr => first | (go_simp; done) | (go_simp; rfl)); intro gb356 hg w7 hbox hb; have n0_ := Aside0.mk (below_step (by repeat (first | (with_reducible first | exact HB.out | apply below_alloc | apply pw_below_drewN | apply below_drew1) | exact HB.out)) hb); have n1_ := Aside0.mk (hbox); have n2_ := Aside0.mk ((by rw [hg]; exact (below_size (by repeat (first | (with_reducible first | exact HB.out | apply below_alloc | apply pw_below_drewN | apply below_drew1) | exact HB.out))) : w.heap.size ≤ gb356)); have n3_ := Aside0.mk ((by rw [hg]; exact (below_size (by repeat (first | (with_reducible first | exact HB.out | apply below_alloc | apply pw_below_drewN | apply below_drew1) | exact HB.out))) : w.heap.size ≤ gb356)); clear HB; have HB := n0_; have BK356 := n1_; have GW356 := n2_; have GE356 := n3_; clear n0_ n1_ n2_ n3_; clear hb hbox hg; have hcz8_0 : w7.cell? ⟨gb356, 0, none⟩ = some (.int .i64 a0_0) := (blk_cell BK356.out 0).trans rfl; have hcz8_1 : w7.cell? ⟨gb356, 1, none⟩ = some (.slice A0_1 l0_1.length c0_1) := (blk_cell BK356.out 1).trans rfl; have hfz8_0 := blk_frozen BK356.out 0; have hfz8_1 := blk_frozen BK356.out 1; have p357 : 0 ≤ ((ji4) : Int) := of_decide_eq_true (by first | (with_reducible assumption) | assumption); have q357 : (ji4) < (l0_1.length : Int) := of_decide_eq_true (by first | (with_reducible assumption) | assumption); obtain ⟨ad357, e357, hx357_0, hx357_1⟩ := at_T89 HR0_1.out (ji4) p357 q357; cases e357; replace hx357_0 := (HB.out.cell (World.block_lt_of_cell? w _ hx357_0)).trans hx357_0; replace hx357_1 := (HB.out.cell (World.block_lt_of_cell? w _ hx357_1)).trans hx357_1; replace p357 := eq_true p357; replace q357 := eq_true q357))
    go_ret
    exact ⟨by first | rfl | (simp [errW_none, errW_some] <;> rfl) | (simp only [← hji4]; first | rfl | (simp [errW_none, errW_some] <;> rfl)) | (simp [*, errW_none, errW_some] <;> rfl), by repeat (first | (with_reducible first | exact HB.out | apply below_alloc | apply pw_below_drewN | apply below_drew1 | refine below_set ?_ GE356.out) | exact HB.out)⟩
   ·rw [if_neg c6] at H
    exact absurd H (by simp)
  ·rw [if_neg c5] at H
   exact absurd H (by simp)
 ·rw [if_neg c3] at H
  have c3b0 : ((Int.tmod a1 2) == 0) = false := beq_eq_false_iff_ne.mpr c3
  have c3b1 : ((Int.tmod a1 2) != 0) = true := bne_iff_ne.mpr c3
  obtain ⟨ji9, hji9⟩ : ∃ j_ : Int, (wrap64 (Int.tdiv a1 2)) = j_ := ⟨_, rfl⟩
  replace H : (if 0 ≤ (ji9) then (if (ji9) < (l0_1.length : Int) then (some ((rd_T89 l0_1 (ji9)).f0)) else (none)) else (none)) = some r := by first | (rw [hji9] at H; exact H) | (simp only [hji9] at H ⊢; exact H)
  have hji9w : (IntKind.i64.wrap (Int.tdiv a1 2)) = ji9 := (i64_w _).trans hji9
  by_cases c10 : 0 ≤ (ji9)
  ·rw [if_pos c10] at H
   have c10b0 : decide (0 ≤ (ji9)) = true := decide_eq_true c10
   clear c10
   by_cases c11 : (ji9) < (l0_1.length : Int)
   ·rw [if_pos c11] at H
    have c11b0 : decide ((ji9) < (l0_1.length : Int)) = true := decide_eq_true c11
    clear c11
    obtain rfl := Option.some.inj H
    go_enter Try.func27, Try.ntmps27
    go_wp2_with (first | ((with_reducible refine gate_dst (N := 2) rfl ?_); refine box_event ?hg (N := 2) ?hd (cs := #[.int .i64 a0_0, .slice A0_1 l0_1.length c0_1]) (t := 24) ?hr ?_; (case hd => rfl); (case hg => rfl); (case hr => first | (go_simp; done) | (go_simp; rfl)); intro gb356 hg w12 hbox hb; have n0_ := Aside0.mk (below_step (by repeat (first | (with_reducible first | exact HB.out | apply below_alloc | apply pw_below_drewN | apply below_drew1) | exact HB.out)) hb); have n1_ := Aside0.mk (hbox); have n2_ := Aside0.mk ((by rw [hg]; exact (below_size (by repeat (first | (with_reducible first | exact HB.out | apply below_alloc | apply pw_below_drewN | apply below_drew1) | exact HB.out))) : w.heap.size ≤ gb356)); have n3_ := Aside0.mk ((by rw [hg]; exact (below_size (by repeat (first | (with_reducible first | exact HB.out | apply below_alloc | apply pw_below_drewN | apply below_drew1) | exact HB.out))) : w.heap.size ≤ gb356)); clear HB; have HB := n0_; have BK356 := n1_; have GW356 := n2_; have GE356 := n3_; clear n0_ n1_ n2_ n3_; clear hb hbox hg; have hcz13_0 : w12.cell? ⟨gb356, 0, none⟩ = some (.int .i64 a0_0) := (blk_cell BK356.out 0).trans rfl; have hcz13_1 : w12.cell? ⟨gb356, 1, none⟩ = some (.slice A0_1 l0_1.length c0_1) := (blk_cell BK356.out 1).trans rfl; have hfz13_0 := blk_frozen BK356.out 0; have hfz13_1 := blk_frozen BK356.out 1; have p358 : 0 ≤ ((ji9) : Int) := of_decide_eq_true (by first | (with_reducible assumption) | assumption); have q358 : (ji9) < (l0_1.length : Int) := of_decide_eq_true (by first | (with_reducible assumption) | assumption); obtain ⟨ad358, e358, hx358_0, hx358_1⟩ := at_T89 HR0_1.out (ji9) p358 q358; cases e358; replace hx358_0 := (HB.out.cell (World.block_lt_of_cell? w _ hx358_0)).trans hx358_0; replace hx358_1 := (HB.out.cell (World.block_lt_of_cell? w _ hx358_1)).trans hx358_1; replace p358 := eq_true p358; replace q358 := eq_true q358))
    go_ret
    exact ⟨by first | rfl | (simp [errW_none, errW_some] <;> rfl) | (simp only [← hji9]; first | rfl | (simp [errW_none, errW_some] <;> rfl)) | (simp [*, errW_none, errW_some] <;> rfl), by repeat (first | (with_reducible first | exact HB.out | apply below_alloc | apply pw_below_drewN | apply below_drew1 | refine below_set ?_ GE356.out) | exact HB.out)⟩
   ·rw [if_neg c11] at H
    exact absurd H (by simp)
  ·rw [if_neg c10] at H
   exact absurd H (by simp)
end Go.Proofs.Yteeihjpnhjnknaa.GAll
namespace Go.Proofs.Yteeihjpnhjnknaa.Rot
open Go.RowKit Go.Proofs.YteeihjpnhjnknaaW.PrintWords Go.Proofs.YteeihjpnhjnknaaW.PrintLast Go.Proofs.YteeihjpnhjnknaaW.PrintMore Go.Proofs.Yteeihjpnhjnknaa.GAll Go.Proofs.Yteeihjpnhjnknaa.Mem Go.Proofs.Yteeihjpnhjnknaa.Seen Go.Proofs.Yteeihjpnhjnknaa.Mk
set_option linter.unusedVariables false
set_option linter.unusedSimpArgs false
theorem to_nat {n : Nat} {l : List Ed} (hg : PureV.Good (n : Int) l) {h : Nat} (hh : h < 2 * l.length) : tangramref03_To.f (n : Int) l (h : Int) = some (gi (toOf l) h) := by
 have hll := hg.2.2.1
 have e1 : Int.tmod (h : Int) 2 = ((h % 2 : Nat) : Int) := rfl
 have e2 : wrap64 (Int.tdiv (h : Int) 2) = ((h / 2 : Nat) : Int) := by
  have : Int.tdiv (h : Int) 2 = ((h / 2 : Nat) : Int) := rfl
  rw [this, IntWalk.wrap64_in _ (by omega)]
 have e := (from_to hg hh).2
 rw [tw_nat (by omega)] at e
 unfold tangramref03_To.f
 rw [e1, e2]
 obtain ⟨i, hi⟩ : ∃ i, i = h / 2 := ⟨_, rfl⟩
 have hil : i < l.length := by omega
 rw [← hi]
 have c1 : (0 : Int) ≤ ((i : Nat) : Int) := by omega
 have c2 : ((i : Nat) : Int) < (l.length : Int) := by omega
 rcases Nat.mod_two_eq_zero_or_one h with q | q
 ·rw [if_pos q, Int.toNat_natCast, show h + 1 = 2 * i + 1 by omega, frs_odd hil] at e
  rw [q, if_pos (by decide), if_pos c1, if_pos c2, ← e]
 ·rw [if_neg (by omega), Int.toNat_natCast, show h - 1 = 2 * i by omega, frs_even hil] at e
  rw [q, if_neg (by decide), if_pos c1, if_pos c2, ← e]
theorem to_half {n : Nat} {l : List Ed} {r : List (List Int)} (hm : IsMap n l r) {v j : Nat} (hv : v < n) (hj : j < (gl r v).length) : tangramref03_To.f (n : Int) l (gi (gl r v) j) = some (too (toOf l) (gi (gl r v) j)) := by
 obtain ⟨a, _⟩ := row_in hm hv hj
 obtain ⟨h, e, hh⟩ := a.nat
 rw [hm.len] at hh
 rw [e]
 unfold too
 rw [Int.toNat_natCast]
 exact to_nat hm.good hh
theorem rows_len {n : Nat} {l : List Ed} {r : List (List Int)} (hm : IsMap n l r) {v : Nat} (hv : v ≤ n) : ((List.range v).flatMap fun a => gl r a).length ≤ 2 * l.length := by
 have hnd : ((List.range v).flatMap fun a => gl r a).Nodup := by
  rw [List.nodup_iff_pairwise_ne, List.pairwise_flatMap]
  refine ⟨fun a ha => ?_, List.pairwise_lt_range.imp_of_mem ?_⟩
  ·have := hm.rot.nodup a (by rw [List.mem_range] at ha; omega)
   rwa [List.nodup_iff_pairwise_ne] at this
  ·intro a b ha hb hab x hx y hy e
   rw [List.mem_range] at ha hb
   subst e
   have h1 := (hm.rot.mem a (by omega) _).1 hx
   have h2 := (hm.rot.mem b (by omega) _).1 hy
   unfold leaves at h1 h2
   rw [Bool.and_eq_true, Bool.and_eq_true, beq_iff_eq] at h1 h2
   have h3 := h1.2.2
   rw [h2.2.2] at h3
   omega
 have := sub_le _ ((List.range (2 * l.length)).map fun (i : Nat) => (i : Int)) hnd (fun x hx => by
  obtain ⟨a, ha, hxa⟩ := List.mem_flatMap.1 hx
  rw [List.mem_range] at ha
  have h1 := (hm.rot.mem a (by omega) _).1 hxa
  unfold leaves at h1
  rw [Bool.and_eq_true, Bool.and_eq_true, decide_eq_true_eq, decide_eq_true_eq, frs_length] at h1
  exact List.mem_map.2 ⟨x.toNat, List.mem_range.2 (by omega), by omega⟩)
 simpa using this
theorem psTo_len (l : List Ed) (r : List (List Int)) (nm order : List Int) : ∀ v, (psTo l r nm order v 0).length = ((List.range v).flatMap fun a => gl r a).length
 | 0 => by rw [psTo_zero]; rfl
 | v + 1 => by
  rw [← psTo_next, List.range_succ, List.flatMap_append, List.length_append, ← psTo_len l r nm order v]
  unfold psTo
  rw [List.length_append, List.length_append, List.length_map, List.length_map, List.take_zero, List.take_of_length_le (by rw [rowN_length]; exact Nat.le_refl _), rowN_length]
  simp
theorem psTo_le {n : Nat} {l : List Ed} {r : List (List Int)} (hm : IsMap n l r) (nm order : List Int) {v j : Nat} (hv : v < n) (hj : j ≤ (gl r v).length) : (psTo l r nm order v j).length ≤ 2 * l.length := by
 have h1 := rows_len hm (v := v + 1) hv
 rw [← psTo_len l r nm order, ← psTo_next] at h1
 refine Nat.le_trans ?_ h1
 unfold psTo
 rw [List.length_append, List.length_append, List.length_map, List.length_map, List.length_take, List.length_take, rowN_length]
 omega
theorem rowN_at {l : List Ed} {r : List (List Int)} (nm order : List Int) {v j : Nat} (hj : j < (gl r v).length) : gi (rowN l r nm order v) j = gi nm (too (toOf l) (gi (gl r v) ((j + shf order (gl r v)) % (gl r v).length))).toNat := by
 unfold rowN
 rw [gi_range _ hj]
theorem psTo_in {n : Nat} {l : List Ed} {r : List (List Int)} (hm : IsMap n l r) (hp : parts n l = 1) (h0 : 0 < l.length) {nm : List Int} (h : Nm n nm) (order : List Int) {k : Nat} (hk : k < (psTo l r nm order n 0).length) : 0 ≤ (pe (psTo l r nm order n 0) k).1 ∧ (pe (psTo l r nm order n 0) k).1 < n ∧ 0 ≤ (pe (psTo l r nm order n 0) k).2 ∧ (pe (psTo l r nm order n 0) k).2 < n := by
 have hmem : pe (psTo l r nm order n 0) k ∈ psTo l r nm order n 0 := by rw [← pe_get hk]; exact List.getElem_mem hk
 obtain ⟨x, hx, e⟩ := (psTo_prs (order := order) hm hp h0 h _).1 hmem
 have hw := web hm hp
 have a := hw.fr hx
 have b := hw.to hx
 have c := h.rng (frm (toOf l) x).toNat (by omega)
 have d := h.rng (too (toOf l) x).toNat (by omega)
 have e1 : (pe (psTo l r nm order n 0) k).1 = gi nm (frm (toOf l) x).toNat := by rw [e]
 have e2 : (pe (psTo l r nm order n 0) k).2 = gi nm (too (toOf l) x).toNat := by rw [e]
 rw [e1, e2]
 exact ⟨c.1, c.2, d.1, d.2⟩
end Go.Proofs.Yteeihjpnhjnknaa.Rot
namespace Go.Proofs.Yteeihjpnhjnknaa.Mk
open Go.Proofs.Yteeihjpnhjnknaa.Rot Go.RowKit Go.Proofs.YteeihjpnhjnknaaW.PrintWords Go.Proofs.YteeihjpnhjnknaaW.PrintLast Go.Proofs.YteeihjpnhjnknaaW.PrintMore Go.Proofs.Yteeihjpnhjnknaa.GAll Go.Proofs.Yteeihjpnhjnknaa.Mem Go.Proofs.Yteeihjpnhjnknaa.Seen
set_option linter.unusedVariables false
set_option linter.unusedSimpArgs false
theorem own_sl {w : World} {base : Nat} {e : TypeId} {size n : Nat} {v : Value} {xs : List Value} (h : w.ownsRow base e size v n xs) : ∃ A c, v = .slice A n c := by
 rcases h.2 with ⟨rfl, rfl⟩ | ⟨g, cap, cur, rfl, _⟩
 ·exact ⟨none, 0, rfl⟩
 ·exact ⟨_, _, rfl⟩
def idsTo (N k : Nat) : List Int := (List.range N).map fun i => if i < k then (i : Int) else 0
theorem idsTo_length (N k : Nat) : (idsTo N k).length = N := by unfold idsTo; simp
theorem idsTo_zero (N : Nat) : idsTo N 0 = List.replicate N 0 := by
 unfold idsTo
 apply List.ext_getElem (by simp)
 intro i h1 h2
 simp
theorem idsTo_all (N : Nat) (order : List Int) : idsTo N N = nmTo N order 0 := by
 unfold idsTo nmTo
 refine List.map_congr_left fun i hi => ?_
 rw [if_pos (List.mem_range.1 hi)]
theorem idsTo_set {N k : Nat} (hk : k < N) : (idsTo N k).set k (k : Int) = idsTo N (k + 1) := by
 refine list_gi (by rw [List.length_set, idsTo_length, idsTo_length]) fun i hi => ?_
 rw [List.length_set, idsTo_length] at hi
 have e : ∀ j, gi (idsTo N j) i = if i < j then (i : Int) else 0 := fun j => by unfold idsTo; rw [gi_range _ hi]
 rw [gi_set, idsTo_length, e, e]
 by_cases h : k = i
 ·subst h
  rw [if_pos ⟨rfl, hi⟩, if_pos (by omega)]
 ·rw [if_neg (fun q => h q.1)]
  by_cases h2 : i < k
  ·rw [if_pos h2, if_pos (by omega)]
  ·rw [if_neg h2, if_neg (by omega)]
set_option maxHeartbeats 4000000 in
set_option maxRecDepth 100000 in
theorem renamed_calls (k N : Nat) (A : Option Addr) (c : Nat) (l : List Ed) (A1 : Option Addr) (c1 : Nat) (r : List (List Int)) (Ao : Option Addr) (co : Nat) (order : List Int) (w : World)
  (hl : Kd.C k89 w A l.length l) (hc : l.length ≤ c) (hr : Kd.C KR w A1 r.length r) (hc1 : r.length ≤ c1) (ho : Kd.C (Kd.int .i64) w Ao order.length order) (hob : order.length ≤ 20000000000000)
  (hm : IsMap N l r) (hp : parts N l = 1) (h0 : 0 < l.length) (r2 : List (List Int)) (hml : (makeL (psTo l r (nmTo N order order.length) order N 0)).length ≤ 4194304)
  (hof : tangramref11_Of.f k (N : Int) (eds (makeL (psTo l r (nmTo N order order.length) order N 0))) (gsTo N l r (nmTo N order order.length) order N 0) = some (r2, 0, 0)) :
  Calls Try.prog 26 #[.agg #[.int .i64 (N : Int), .slice A l.length c, .slice A1 r.length c1], .slice Ao order.length co] w fun e w' => ∃ (Al Ar : Option Addr) (cl cr : Nat) (vn : Value), e = .returned (.tuple #[.agg #[.int .i64 (N : Int), .slice Al (eds (makeL (psTo l r (nmTo N order order.length) order N 0))).length cl, .slice Ar r2.length cr], vn]) ∧ (eds (makeL (psTo l r (nmTo N order order.length) order N 0))).length ≤ cl ∧ r2.length ≤ cr ∧ Kd.C k89 w' Al (eds (makeL (psTo l r (nmTo N order order.length) order N 0))).length (eds (makeL (psTo l r (nmTo N order order.length) order N 0))) ∧ Kd.C KR w' Ar r2.length r2 ∧ Below w.heap.size w w' := by
 have hN := hm.good.2.1
 have mk := print_make_of (P := Try.prog) 32 3 (.int .i64 0) 8 Try.underlying32 info_int rfl (by decide) N (by omega)
 have HM := Aside0.mk hm
 have HP := Aside0.mk hp
 have HL0 := Aside0.mk h0
 have HL := Aside0.mk hl
 have HR := Aside0.mk hr
 have HO := Aside0.mk ho
 have HC := Aside0.mk hc
 have HC1 := Aside0.mk hc1
 have HML := Aside0.mk hml
 have HOF := Aside0.mk hof
 clear hm hp h0 hl hr ho hc hc1 hml hof
 obtain ⟨wa, hwa⟩ : ∃ wa, wa = (w.alloc (.cells #[.int .i64 (N : Int), .slice A l.length c, .slice A1 r.length c1] 31 (0, 0))).alloc (.cells #[.int .i64 0, .slice none 0 0, .slice none 0 0] 31 (0, 0)) := ⟨_, rfl⟩
 obtain ⟨b2, hb2⟩ : ∃ b2, b2 = w.heap.size := ⟨_, rfl⟩
 have HX : Aside0 (wa.heap[b2]? = some (.cells #[.int .i64 (N : Int), .slice A l.length c, .slice A1 r.length c1] 31 (0, 0))) := ⟨by rw [hwa, hb2]; exact heap_old (heap_last w _) _⟩
 have HY : Aside0 (wa.heap[b2 + 1]? = some (.cells #[.int .i64 0, .slice none 0 0, .slice none 0 0] 31 (0, 0))) := ⟨by
  have := heap_last (w.alloc (.cells #[.int .i64 (N : Int), .slice A l.length c, .slice A1 r.length c1] 31 (0, 0))) (.cells #[.int .i64 0, .slice none 0 0, .slice none 0 0] 31 (0, 0))
  rw [hwa, hb2]
  simpa using this⟩
 have HB : Aside0 (Below w.heap.size w wa) := ⟨by rw [hwa]; exact ((Below.refl _ _).alloc (Nat.le_refl _) _).alloc (by simp) _⟩
 have HBB := Aside0.mk hb2
 go_enter Try.func26, Try.ntmps26
 go_upto_region 1 with (fail)
 rw [← hb2, ← hwa]
 clear hb2 hwa
 have x0 : wa.cell? ⟨b2, 0, none⟩ = some (.int .i64 (N : Int)) := heap_cell HX.out rfl
 go_wp2_with fail
 clear mk x0
 obtain ⟨bn, hbn⟩ : ∃ bn, bn = wa.heap.size := ⟨_, rfl⟩
 have HT : Aside0 (IRow (wa.alloc (.cells (madeCells #[.int .i64 0] N) 3 (0, 0))) bn (idsTo N 0)) := ⟨by
  rw [made_int, idsTo_zero, hbn]
  exact IRow.start wa N⟩
 have HE : Aside0 (Below wa.heap.size wa (wa.alloc (.cells (madeCells #[.int .i64 0] N) 3 (0, 0)))) := ⟨(Below.refl _ _).alloc (Nat.le_refl _) _⟩
 have HBN := Aside0.mk hbn
 rw [← hbn]
 clear hbn
 generalize wa.alloc (.cells (madeCells #[.int .i64 0] N) 3 (0, 0)) = w3 at HT HE ⊢
 go_loopw [29] (fun y wr => ∃ (i : Nat), y = .int .i64 (i : Int) ∧ i ≤ N ∧ Aside0 (IRow wr bn (idsTo N i)) ∧ Aside0 (Below wa.heap.size wa wr)) (fun y _ => N - (intOf y).toNat)
 case atStart => exact ⟨0, rfl, by omega, HT, HE⟩
 case round =>
  clear HT HE
  obtain ⟨i, rfl, hi, HT, HE⟩ := hrel
  by_cases hlt : i < N
  ·have c1 := HT.out.cell (i := i) (by rw [idsTo_length]; exact hlt)
   have f1 := HT.out.free i
   have HT1 : Aside0 (IRow (wr.setCell ⟨bn, i, none⟩ (.int .i64 (i : Int))) bn (idsTo N (i + 1))) := ⟨by rw [← idsTo_set hlt]; exact HT.out.put i (i : Int)⟩
   have HE1 := Aside0.mk (HE.out.setCell (p := ⟨bn, i, none⟩) (by have := HBN.out; simp; omega) (.int .i64 (i : Int)))
   go_wp2_with fail
   clear c1 f1
   go_roundw
   case rel => exact ⟨i + 1, by go_num, by omega, HT1, HE1⟩
   case measure => simp [intOf]; omega
  ·have e : i = N := by omega
   subst e
   have HT2 : Aside0 (IRow wr bn (nmTo i order 0)) := ⟨by rw [← idsTo_all]; exact HT.out⟩
   have HE2 := HE
   clear HT HE hi hlt
   have hpos : 0 < i := by
    have h := (web HM.out HP.out).fr (x := 0) ⟨by omega, by rw [HM.out.len]; have := HL0.out; omega⟩
    omega
   have c0 : decide (i < i) = false := decide_eq_false (by omega)
   obtain ⟨w4, hw4⟩ : ∃ w4, w4 = wr := ⟨_, rfl⟩
   rw [← hw4] at HT2 HE2 ⊢
   clear hw4
   go_wp2_with fail
   clear c0
   go_loopw [8] (fun y wr => ∃ (j : Nat), y = .int .i64 (j : Int) ∧ j ≤ order.length ∧ Aside0 (IRow wr bn (nmTo i order j)) ∧ Aside0 (Below wa.heap.size wa wr)) (fun y _ => order.length - (intOf y).toNat)
   case atStart => exact ⟨0, rfl, by omega, HT2, HE2⟩
   case round =>
    clear HT2 HE2
    obtain ⟨j, rfl, hj, HT, HE⟩ := hrel
    have c2 : decide ((i : Int) > 0) = true := decide_eq_true (by omega)
    have c2' : decide ((0 : Int) < (i : Int)) = true := decide_eq_true (by omega)
    by_cases hlt : j < order.length
    ·have HOW : Aside0 (Kd.C (Kd.int .i64) wr Ao order.length order) := ⟨Kd.C_below HO.out (HB.out.trans (HE.out.mono HB.out.size))⟩
     obtain ⟨ad, eA, y0⟩ := Kd.at_int HOW.out (j : Int) (by omega) (by omega)
     subst eA
     rw [Int.toNat_natCast, gi_rd] at y0
     obtain ⟨x, hx⟩ : ∃ x, x = gi order j := ⟨_, rfl⟩
     rw [← hx] at y0
     have c3 : decide ((j : Int) < (order.length : Int)) = true := decide_eq_true (by omega)
     have c4 : ((i : Int) == 0) = false := beq_eq_false_iff_ne.2 (by omega)
     have c5 : ¬ (i : Int) = 0 := by omega
     obtain ⟨z, hz⟩ : ∃ z, z = Int.tmod x (i : Int) := ⟨_, rfl⟩
     have c6 : Int.tmod x (i : Int) = z := hz.symm
     have c7 : Int.tmod (j : Int) (i : Int) = ((j % i : Nat) : Int) := rfl
     obtain ⟨q, hq⟩ : ∃ q, q = z.natAbs := ⟨_, rfl⟩
     obtain ⟨p, hp⟩ : ∃ p, p = j % i := ⟨_, rfl⟩
     rw [← hp] at c7
     have hql : q < i := by rw [hq, hz, Int.natAbs_tmod]; exact Nat.mod_lt _ (by omega)
     have hpl : p < i := by rw [hp]; exact Nat.mod_lt _ hpos
     have HNX : Aside0 (nmTo i order (j + 1) = swap2 (nmTo i order j) p q) := ⟨by show swap2 _ _ _ = _; rw [hp, hq, hz, hx]⟩
     have HZ := Aside0.mk hq
     have HLEN : Aside0 ((nmTo i order j).length = i) := ⟨(nmTo_nm hpos order j).len⟩
     clear hx hz hq hp
     have g1 : (p : Int) < (i : Int) := by omega
     have g2 : (q : Int) < (i : Int) := by omega
     by_cases hneg : z < 0
     ·have d1 : decide (z < 0) = true := decide_eq_true hneg
      have d2 : IntKind.i64.wrap (-z) = (q : Int) := by have := HZ.out; rw [IntWalk.i64_in _ (by omega)]; omega
      clear hneg
      go_upto_region 14 with (fail)
      clear c2 c2' c3 c4 c5 c6 c7 d1 d2 y0
      have hb : Below wr.heap.size wr wr.drew := (Below.refl _ _).drew
      have HTD : Aside0 (IRow wr.drew bn (nmTo i order j)) := ⟨(hb.block _ (lt_of HT.out)).trans HT.out⟩
      have HED : Aside0 (Below wa.heap.size wa wr.drew) := ⟨HE.out.trans (hb.mono HE.out.size)⟩
      clear hb HE
      obtain ⟨nm, hnm⟩ : ∃ nm, nm = nmTo i order j := ⟨_, rfl⟩
      rw [← hnm] at HTD HNX HLEN HT
      have HNM := Aside0.mk hnm
      clear hnm
      obtain ⟨xq, hxq⟩ : ∃ xq, xq = gi nm q := ⟨_, rfl⟩
      obtain ⟨xp, hxp⟩ : ∃ xp, xp = gi nm p := ⟨_, rfl⟩
      have y1 := HTD.out.cell (i := q) (by rw [HLEN.out]; exact hql)
      have y2 := HTD.out.cell (i := p) (by rw [HLEN.out]; exact hpl)
      rw [← hxq] at y1
      rw [← hxp] at y2
      have HT1 : Aside0 (IRow (wr.drew.setCell ⟨bn, p, none⟩ (.int .i64 xq)) bn (nm.set p xq)) := ⟨HTD.out.put p xq⟩
      have cs := (HT.out.put p xq).cell (i := q) (by rw [List.length_set, HLEN.out]; exact hql)
      have hcs : gi (nm.set p xq) q = xq := by rw [gi_set]; split <;> first | rfl | exact hxq.symm
      rw [hcs] at cs
      have f0 := HTD.out.free p
      have fw := HT.out.free q
      have f1 := HT.out.free p
      have fq := HT1.out.free q
      have HT2 : Aside0 (IRow ((wr.drew.setCell ⟨bn, p, none⟩ (.int .i64 xq)).setCell ⟨bn, q, none⟩ (.int .i64 xp)) bn (nmTo i order (j + 1))) := ⟨by rw [HNX.out]; unfold swap2; rw [← hxq, ← hxp]; exact HT1.out.put q xp⟩
      have HE2 : Aside0 (Below wa.heap.size wa ((wr.drew.setCell ⟨bn, p, none⟩ (.int .i64 xq)).setCell ⟨bn, q, none⟩ (.int .i64 xp))) := ⟨(HED.out.setCell (p := ⟨bn, p, none⟩) (by have := HBN.out; simp; omega) _).setCell (p := ⟨bn, q, none⟩) (by have := HBN.out; simp; omega) _⟩
      clear hxq hxp hcs HTD HT1 HED HNX HLEN HNM HT
      refine start_ (n := 16) (S := fun w' => w'.cell? ⟨bn, q, none⟩ = some (.int .i64 xq) ∧ w'.cell? ⟨bn, p, none⟩ = some (.int .i64 xp)) (ds := [13, 15]) #[false, false, false, false, false, false, false, false, false, false, false, false, false, false, false, false] (by kernel_rfl) rfl rfl ⟨y1, y2⟩ (fun hHeld => ?_)
      refine pure_ (i := 0) (N := some 63) (v := ?_) (a' := ?_) #[true, false, false, false, false, false, false, false, false, false, false, false, false, false, false, false] rfl rfl (by kernel_rfl) (fun _ _ _ h => h) (Or.inl ⟨by rfl, ?_⟩) ?_ ?_
      rotate_left
      ·intro w'
       go_simp
       with_reducible rfl
      rotate_left
      ·simp only [Act.put, List.setIfInBounds_toArray, List.set_cons_zero, List.set_cons_succ, i64_w, i32_w]
       rfl
      refine pure_ (i := 1) (N := some 64) (v := ?_) (a' := ?_) #[true, true, false, false, false, false, false, false, false, false, false, false, false, false, false, false] rfl rfl (by kernel_rfl) (fun _ _ _ h => h) (Or.inl ⟨by rfl, ?_⟩) ?_ ?_
      rotate_left
      ·intro w'
       go_simp
       with_reducible rfl
      rotate_left
      ·simp only [Act.put, List.setIfInBounds_toArray, List.set_cons_zero, List.set_cons_succ, i64_w, i32_w]
       rfl
      refine pure_ (i := 2) (N := some 65) (v := ?_) (a' := ?_) #[true, true, true, false, false, false, false, false, false, false, false, false, false, false, false, false] rfl rfl (by kernel_rfl) (fun _ _ _ h => h) (Or.inl ⟨by rfl, ?_⟩) ?_ ?_
      rotate_left
      ·intro w'
       go_simp
       with_reducible rfl
      rotate_left
      ·simp only [Act.put, List.setIfInBounds_toArray, List.set_cons_zero, List.set_cons_succ, i64_w, i32_w]
       rfl
      refine pure_ (i := 3) (N := some 66) (v := ?_) (a' := ?_) #[true, true, true, true, false, false, false, false, false, false, false, false, false, false, false, false] rfl rfl (by kernel_rfl) (fun _ _ _ h => h) (Or.inl ⟨by rfl, ?_⟩) ?_ ?_
      rotate_left
      ·intro w'
       go_simp
       with_reducible rfl
      rotate_left
      ·simp only [Act.put, List.setIfInBounds_toArray, List.set_cons_zero, List.set_cons_succ, i64_w, i32_w]
       rfl
      refine pure_ (i := 4) (N := some 67) (v := ?_) (a' := ?_) #[true, true, true, true, true, false, false, false, false, false, false, false, false, false, false, false] rfl rfl (by kernel_rfl) (fun _ _ _ h => h) (Or.inl ⟨by rfl, ?_⟩) ?_ ?_
      rotate_left
      ·intro w'
       go_simp
       with_reducible rfl
      rotate_left
      ·simp only [Act.put, List.setIfInBounds_toArray, List.set_cons_zero, List.set_cons_succ, i64_w, i32_w]
       rfl
      refine pure_ (i := 5) (N := some 68) (v := ?_) (a' := ?_) #[true, true, true, true, true, true, false, false, false, false, false, false, false, false, false, false] rfl rfl (by kernel_rfl) (fun _ _ _ h => h) (Or.inl ⟨by rfl, ?_⟩) ?_ ?_
      rotate_left
      ·intro w'
       go_simp
       with_reducible rfl
      rotate_left
      ·simp only [Act.put, List.setIfInBounds_toArray, List.set_cons_zero, List.set_cons_succ, i64_w, i32_w]
       rfl
      refine pure_ (i := 6) (N := some 69) (v := ?_) (a' := ?_) #[true, true, true, true, true, true, true, false, false, false, false, false, false, false, false, false] rfl rfl (by kernel_rfl) (fun _ _ _ h => h) (Or.inl ⟨by rfl, ?_⟩) ?_ ?_
      rotate_left
      ·intro w'
       go_simp
       with_reducible rfl
      rotate_left
      ·simp only [Act.put, List.setIfInBounds_toArray, List.set_cons_zero, List.set_cons_succ, i64_w, i32_w]
       rfl
      refine pure_ (i := 8) (N := some 71) (v := ?_) (a' := ?_) #[true, true, true, true, true, true, true, false, true, false, false, false, false, false, false, false] rfl rfl (by kernel_rfl) (fun _ _ _ h => h) (Or.inl ⟨by rfl, ?_⟩) ?_ ?_
      rotate_left
      ·intro w'
       go_simp
       with_reducible rfl
      rotate_left
      ·simp only [Act.put, List.setIfInBounds_toArray, List.set_cons_zero, List.set_cons_succ, i64_w, i32_w]
       rfl
      refine pure_ (i := 9) (N := some 72) (v := ?_) (a' := ?_) #[true, true, true, true, true, true, true, false, true, true, false, false, false, false, false, false] rfl rfl (by kernel_rfl) (fun _ _ _ h => h) (Or.inl ⟨by rfl, ?_⟩) ?_ ?_
      rotate_left
      ·intro w'
       go_simp
       with_reducible rfl
      rotate_left
      ·simp only [Act.put, List.setIfInBounds_toArray, List.set_cons_zero, List.set_cons_succ, i64_w, i32_w]
       rfl
      refine pure_ (i := 10) (N := some 73) (v := ?_) (a' := ?_) #[true, true, true, true, true, true, true, false, true, true, true, false, false, false, false, false] rfl rfl (by kernel_rfl) (fun _ _ _ h => h) (Or.inl ⟨by rfl, ?_⟩) ?_ ?_
      rotate_left
      ·intro w'
       go_simp
       with_reducible rfl
      rotate_left
      ·simp only [Act.put, List.setIfInBounds_toArray, List.set_cons_zero, List.set_cons_succ, i64_w, i32_w]
       rfl
      refine take_ (i := 7) (N := some 70) (v := ?_) (a' := ?_) #[true, true, true, true, true, true, true, true, true, true, true, false, false, false, false, false] rfl rfl (by kernel_rfl) (fun _ _ _ h => h) (Or.inl ⟨by rfl, ?_⟩) hHeld ?_ ?_
      rotate_left
      ·rintro w' ⟨s0, s1⟩
       go_simp
       with_reducible rfl
      rotate_left
      ·simp only [Act.put, List.setIfInBounds_toArray, List.set_cons_zero, List.set_cons_succ, i64_w, i32_w]
       rfl
      refine take_ (i := 11) (N := some 74) (v := ?_) (a' := ?_) #[true, true, true, true, true, true, true, true, true, true, true, true, false, false, false, false] rfl rfl (by kernel_rfl) (fun _ _ _ h => h) (Or.inl ⟨by rfl, ?_⟩) hHeld ?_ ?_
      rotate_left
      ·rintro w' ⟨s0, s1⟩
       go_simp
       with_reducible rfl
      rotate_left
      ·simp only [Act.put, List.setIfInBounds_toArray, List.set_cons_zero, List.set_cons_succ, i64_w, i32_w]
       rfl
      refine pure_ (i := 12) (N := some 75) (v := ?_) (a' := ?_) #[true, true, true, true, true, true, true, true, true, true, true, true, true, false, false, false] rfl rfl (by kernel_rfl) (fun _ _ _ h => h) (Or.inl ⟨by rfl, ?_⟩) ?_ ?_
      rotate_left
      ·intro w'
       go_simp
       with_reducible rfl
      rotate_left
      ·simp only [Act.put, List.setIfInBounds_toArray, List.set_cons_zero, List.set_cons_succ, i64_w, i32_w]
       rfl
      refine last_ (i := 13) (N := none) #[true, true, true, true, true, true, true, true, true, true, true, true, true, true, false, false] rfl rfl (by kernel_rfl) (by decide) (fun K hK => ?_)
      refine skip_ (w1 := ?_) (by rfl) rfl ?_ ?_
      rotate_left
      ·go_simp
       rfl
      refine hK.out _ _ ?_
      clear hK K
      refine pure_ (i := 14) (N := some 76) (v := ?_) (a' := ?_) #[true, true, true, true, true, true, true, true, true, true, true, true, true, true, true, false] rfl rfl (by kernel_rfl) (fun _ _ _ h => h) (Or.inl ⟨by rfl, ?_⟩) ?_ ?_
      rotate_left
      ·intro w'
       go_simp
       with_reducible rfl
      rotate_left
      ·simp only [Act.put, List.setIfInBounds_toArray, List.set_cons_zero, List.set_cons_succ, i64_w, i32_w]
       rfl
      refine last_ (i := 15) (N := none) #[true, true, true, true, true, true, true, true, true, true, true, true, true, true, true, true] rfl rfl (by kernel_rfl) (by decide) (fun K hK => ?_)
      refine skip_ (w1 := ?_) (by rfl) rfl ?_ ?_
      rotate_left
      ·go_simp
       rfl
      refine hK.out _ _ ?_
      clear hK K
      refine done_ (by kernel_rfl) ?_
      clear y1 y2 cs f0 f1 fw fq g1 g2
      go_wp2_with fail
      go_roundw
      case rel => exact ⟨j + 1, by go_num, by omega, HT2, HE2⟩
      case measure => simp [intOf]; omega
     ·obtain rfl : z = (q : Int) := by have := HZ.out; omega
      have d1 : decide ((q : Int) < 0) = false := decide_eq_false hneg
      have d2 : True := trivial
      clear hneg
      go_upto_region 14 with (fail)
      clear c2 c2' c3 c4 c5 c6 c7 d1 d2 y0
      have hb : Below wr.heap.size wr wr.drew := (Below.refl _ _).drew
      have HTD : Aside0 (IRow wr.drew bn (nmTo i order j)) := ⟨(hb.block _ (lt_of HT.out)).trans HT.out⟩
      have HED : Aside0 (Below wa.heap.size wa wr.drew) := ⟨HE.out.trans (hb.mono HE.out.size)⟩
      clear hb HE
      obtain ⟨nm, hnm⟩ : ∃ nm, nm = nmTo i order j := ⟨_, rfl⟩
      rw [← hnm] at HTD HNX HLEN HT
      have HNM := Aside0.mk hnm
      clear hnm
      obtain ⟨xq, hxq⟩ : ∃ xq, xq = gi nm q := ⟨_, rfl⟩
      obtain ⟨xp, hxp⟩ : ∃ xp, xp = gi nm p := ⟨_, rfl⟩
      have y1 := HTD.out.cell (i := q) (by rw [HLEN.out]; exact hql)
      have y2 := HTD.out.cell (i := p) (by rw [HLEN.out]; exact hpl)
      rw [← hxq] at y1
      rw [← hxp] at y2
      have HT1 : Aside0 (IRow (wr.drew.setCell ⟨bn, p, none⟩ (.int .i64 xq)) bn (nm.set p xq)) := ⟨HTD.out.put p xq⟩
      have cs := (HT.out.put p xq).cell (i := q) (by rw [List.length_set, HLEN.out]; exact hql)
      have hcs : gi (nm.set p xq) q = xq := by rw [gi_set]; split <;> first | rfl | exact hxq.symm
      rw [hcs] at cs
      have f0 := HTD.out.free p
      have fw := HT.out.free q
      have f1 := HT.out.free p
      have fq := HT1.out.free q
      have HT2 : Aside0 (IRow ((wr.drew.setCell ⟨bn, p, none⟩ (.int .i64 xq)).setCell ⟨bn, q, none⟩ (.int .i64 xp)) bn (nmTo i order (j + 1))) := ⟨by rw [HNX.out]; unfold swap2; rw [← hxq, ← hxp]; exact HT1.out.put q xp⟩
      have HE2 : Aside0 (Below wa.heap.size wa ((wr.drew.setCell ⟨bn, p, none⟩ (.int .i64 xq)).setCell ⟨bn, q, none⟩ (.int .i64 xp))) := ⟨(HED.out.setCell (p := ⟨bn, p, none⟩) (by have := HBN.out; simp; omega) _).setCell (p := ⟨bn, q, none⟩) (by have := HBN.out; simp; omega) _⟩
      clear hxq hxp hcs HTD HT1 HED HNX HLEN HNM HT
      refine start_ (n := 16) (S := fun w' => w'.cell? ⟨bn, q, none⟩ = some (.int .i64 xq) ∧ w'.cell? ⟨bn, p, none⟩ = some (.int .i64 xp)) (ds := [13, 15]) #[false, false, false, false, false, false, false, false, false, false, false, false, false, false, false, false] (by kernel_rfl) rfl rfl ⟨y1, y2⟩ (fun hHeld => ?_)
      refine pure_ (i := 0) (N := some 63) (v := ?_) (a' := ?_) #[true, false, false, false, false, false, false, false, false, false, false, false, false, false, false, false] rfl rfl (by kernel_rfl) (fun _ _ _ h => h) (Or.inl ⟨by rfl, ?_⟩) ?_ ?_
      rotate_left
      ·intro w'
       go_simp
       with_reducible rfl
      rotate_left
      ·simp only [Act.put, List.setIfInBounds_toArray, List.set_cons_zero, List.set_cons_succ, i64_w, i32_w]
       rfl
      refine pure_ (i := 1) (N := some 64) (v := ?_) (a' := ?_) #[true, true, false, false, false, false, false, false, false, false, false, false, false, false, false, false] rfl rfl (by kernel_rfl) (fun _ _ _ h => h) (Or.inl ⟨by rfl, ?_⟩) ?_ ?_
      rotate_left
      ·intro w'
       go_simp
       with_reducible rfl
      rotate_left
      ·simp only [Act.put, List.setIfInBounds_toArray, List.set_cons_zero, List.set_cons_succ, i64_w, i32_w]
       rfl
      refine pure_ (i := 2) (N := some 65) (v := ?_) (a' := ?_) #[true, true, true, false, false, false, false, false, false, false, false, false, false, false, false, false] rfl rfl (by kernel_rfl) (fun _ _ _ h => h) (Or.inl ⟨by rfl, ?_⟩) ?_ ?_
      rotate_left
      ·intro w'
       go_simp
       with_reducible rfl
      rotate_left
      ·simp only [Act.put, List.setIfInBounds_toArray, List.set_cons_zero, List.set_cons_succ, i64_w, i32_w]
       rfl
      refine pure_ (i := 3) (N := some 66) (v := ?_) (a' := ?_) #[true, true, true, true, false, false, false, false, false, false, false, false, false, false, false, false] rfl rfl (by kernel_rfl) (fun _ _ _ h => h) (Or.inl ⟨by rfl, ?_⟩) ?_ ?_
      rotate_left
      ·intro w'
       go_simp
       with_reducible rfl
      rotate_left
      ·simp only [Act.put, List.setIfInBounds_toArray, List.set_cons_zero, List.set_cons_succ, i64_w, i32_w]
       rfl
      refine pure_ (i := 4) (N := some 67) (v := ?_) (a' := ?_) #[true, true, true, true, true, false, false, false, false, false, false, false, false, false, false, false] rfl rfl (by kernel_rfl) (fun _ _ _ h => h) (Or.inl ⟨by rfl, ?_⟩) ?_ ?_
      rotate_left
      ·intro w'
       go_simp
       with_reducible rfl
      rotate_left
      ·simp only [Act.put, List.setIfInBounds_toArray, List.set_cons_zero, List.set_cons_succ, i64_w, i32_w]
       rfl
      refine pure_ (i := 5) (N := some 68) (v := ?_) (a' := ?_) #[true, true, true, true, true, true, false, false, false, false, false, false, false, false, false, false] rfl rfl (by kernel_rfl) (fun _ _ _ h => h) (Or.inl ⟨by rfl, ?_⟩) ?_ ?_
      rotate_left
      ·intro w'
       go_simp
       with_reducible rfl
      rotate_left
      ·simp only [Act.put, List.setIfInBounds_toArray, List.set_cons_zero, List.set_cons_succ, i64_w, i32_w]
       rfl
      refine pure_ (i := 6) (N := some 69) (v := ?_) (a' := ?_) #[true, true, true, true, true, true, true, false, false, false, false, false, false, false, false, false] rfl rfl (by kernel_rfl) (fun _ _ _ h => h) (Or.inl ⟨by rfl, ?_⟩) ?_ ?_
      rotate_left
      ·intro w'
       go_simp
       with_reducible rfl
      rotate_left
      ·simp only [Act.put, List.setIfInBounds_toArray, List.set_cons_zero, List.set_cons_succ, i64_w, i32_w]
       rfl
      refine pure_ (i := 8) (N := some 71) (v := ?_) (a' := ?_) #[true, true, true, true, true, true, true, false, true, false, false, false, false, false, false, false] rfl rfl (by kernel_rfl) (fun _ _ _ h => h) (Or.inl ⟨by rfl, ?_⟩) ?_ ?_
      rotate_left
      ·intro w'
       go_simp
       with_reducible rfl
      rotate_left
      ·simp only [Act.put, List.setIfInBounds_toArray, List.set_cons_zero, List.set_cons_succ, i64_w, i32_w]
       rfl
      refine pure_ (i := 9) (N := some 72) (v := ?_) (a' := ?_) #[true, true, true, true, true, true, true, false, true, true, false, false, false, false, false, false] rfl rfl (by kernel_rfl) (fun _ _ _ h => h) (Or.inl ⟨by rfl, ?_⟩) ?_ ?_
      rotate_left
      ·intro w'
       go_simp
       with_reducible rfl
      rotate_left
      ·simp only [Act.put, List.setIfInBounds_toArray, List.set_cons_zero, List.set_cons_succ, i64_w, i32_w]
       rfl
      refine pure_ (i := 10) (N := some 73) (v := ?_) (a' := ?_) #[true, true, true, true, true, true, true, false, true, true, true, false, false, false, false, false] rfl rfl (by kernel_rfl) (fun _ _ _ h => h) (Or.inl ⟨by rfl, ?_⟩) ?_ ?_
      rotate_left
      ·intro w'
       go_simp
       with_reducible rfl
      rotate_left
      ·simp only [Act.put, List.setIfInBounds_toArray, List.set_cons_zero, List.set_cons_succ, i64_w, i32_w]
       rfl
      refine take_ (i := 7) (N := some 70) (v := ?_) (a' := ?_) #[true, true, true, true, true, true, true, true, true, true, true, false, false, false, false, false] rfl rfl (by kernel_rfl) (fun _ _ _ h => h) (Or.inl ⟨by rfl, ?_⟩) hHeld ?_ ?_
      rotate_left
      ·rintro w' ⟨s0, s1⟩
       go_simp
       with_reducible rfl
      rotate_left
      ·simp only [Act.put, List.setIfInBounds_toArray, List.set_cons_zero, List.set_cons_succ, i64_w, i32_w]
       rfl
      refine take_ (i := 11) (N := some 74) (v := ?_) (a' := ?_) #[true, true, true, true, true, true, true, true, true, true, true, true, false, false, false, false] rfl rfl (by kernel_rfl) (fun _ _ _ h => h) (Or.inl ⟨by rfl, ?_⟩) hHeld ?_ ?_
      rotate_left
      ·rintro w' ⟨s0, s1⟩
       go_simp
       with_reducible rfl
      rotate_left
      ·simp only [Act.put, List.setIfInBounds_toArray, List.set_cons_zero, List.set_cons_succ, i64_w, i32_w]
       rfl
      refine pure_ (i := 12) (N := some 75) (v := ?_) (a' := ?_) #[true, true, true, true, true, true, true, true, true, true, true, true, true, false, false, false] rfl rfl (by kernel_rfl) (fun _ _ _ h => h) (Or.inl ⟨by rfl, ?_⟩) ?_ ?_
      rotate_left
      ·intro w'
       go_simp
       with_reducible rfl
      rotate_left
      ·simp only [Act.put, List.setIfInBounds_toArray, List.set_cons_zero, List.set_cons_succ, i64_w, i32_w]
       rfl
      refine last_ (i := 13) (N := none) #[true, true, true, true, true, true, true, true, true, true, true, true, true, true, false, false] rfl rfl (by kernel_rfl) (by decide) (fun K hK => ?_)
      refine skip_ (w1 := ?_) (by rfl) rfl ?_ ?_
      rotate_left
      ·go_simp
       rfl
      refine hK.out _ _ ?_
      clear hK K
      refine pure_ (i := 14) (N := some 76) (v := ?_) (a' := ?_) #[true, true, true, true, true, true, true, true, true, true, true, true, true, true, true, false] rfl rfl (by kernel_rfl) (fun _ _ _ h => h) (Or.inl ⟨by rfl, ?_⟩) ?_ ?_
      rotate_left
      ·intro w'
       go_simp
       with_reducible rfl
      rotate_left
      ·simp only [Act.put, List.setIfInBounds_toArray, List.set_cons_zero, List.set_cons_succ, i64_w, i32_w]
       rfl
      refine last_ (i := 15) (N := none) #[true, true, true, true, true, true, true, true, true, true, true, true, true, true, true, true] rfl rfl (by kernel_rfl) (by decide) (fun K hK => ?_)
      refine skip_ (w1 := ?_) (by rfl) rfl ?_ ?_
      rotate_left
      ·go_simp
       rfl
      refine hK.out _ _ ?_
      clear hK K
      refine done_ (by kernel_rfl) ?_
      clear y1 y2 cs f0 f1 fw fq g1 g2
      go_wp2_with fail
      go_roundw
      case rel => exact ⟨j + 1, by go_num, by omega, HT2, HE2⟩
      case measure => simp [intOf]; omega
    ·have e : j = order.length := by omega
     subst e
     have c3 : decide ((order.length : Int) < (order.length : Int)) = false := decide_eq_false (by omega)
     have c3' : decide (order.length < order.length) = false := decide_eq_false (by omega)
     obtain ⟨nm, hnm⟩ : ∃ nm, nm = nmTo i order order.length := ⟨_, rfl⟩
     rw [← hnm] at HT
     have HNM : Aside0 (Nm i nm) := ⟨by rw [hnm]; exact nmTo_nm hpos order _⟩
     have HNE := Aside0.mk hnm
     have mk1 := print_make_of (P := Try.prog) 25 32 (.slice none 0 0) 24 Try.underlying25 info_ints rfl (by decide) i (by omega)
     rw [made_nil] at mk1
     clear hnm hlt hj
     obtain ⟨w5, hw5⟩ : ∃ w5, w5 = wr := ⟨_, rfl⟩
     rw [← hw5] at HT HE ⊢
     clear hw5
     have x0 : w5.cell? ⟨b2, 0, none⟩ = some (.int .i64 (i : Int)) := heap_cell ((HE.out.block _ (lt_of HX.out)).trans HX.out) rfl
     go_upto_region 16 with (fail)
     clear x0 mk1 c2 c2' c3 c3'
     obtain ⟨bo, hbo⟩ : ∃ bo, bo = w5.heap.size := ⟨_, rfl⟩
     have HG : Aside0 (Rows2 (w5.alloc (.cells (Array.replicate i (Value.slice none 0 0)) 32 (0, 0))) (bo + 1) bo (List.replicate i (.slice none 0 0)) (gsTo i l r nm order 0 0)) := ⟨by rw [hbo, gsTo_zero]; exact Rows2.start w5 i⟩
     have HB5 : Aside0 (Below w5.heap.size w5 (w5.alloc (.cells (Array.replicate i (Value.slice none 0 0)) 32 (0, 0)))) := ⟨(Below.refl _ _).alloc (Nat.le_refl _) _⟩
     have HBO := Aside0.mk hbo
     rw [← hbo]
     clear hbo
     generalize w5.alloc (.cells (Array.replicate i (Value.slice none 0 0)) 32 (0, 0)) = w8 at HG HB5 ⊢
     have HP0 : Aside0 (Kd.R kp 84 w8 w5.heap.size (fun _ => True) (.slice none 0 0) (psTo l r nm order 0 0)) := ⟨by rw [psTo_zero]; exact Kd.R_nil _ _ _ _ _⟩
     have HG0 : Aside0 (∃ vs, Rows2 w8 (bo + 1) bo vs (gsTo i l r nm order 0 0)) := ⟨_, HG.out⟩
     have HEW : Aside0 (Below w.heap.size w w5) := ⟨HB.out.trans (HE.out.mono HB.out.size)⟩
     have HX5 : Aside0 (w5.heap[b2]? = some (.cells #[.int .i64 (i : Int), .slice A l.length c, .slice A1 r.length c1] 31 (0, 0))) := ⟨(HE.out.block _ (lt_of HX.out)).trans HX.out⟩
     have HY5 : Aside0 (w5.heap[b2 + 1]? = some (.cells #[.int .i64 0, .slice none 0 0, .slice none 0 0] 31 (0, 0))) := ⟨(HE.out.block _ (lt_of HY.out)).trans HY.out⟩
     clear HG HE HX HY
     go_wp2_with fail
     go_loopw [12, 13] (fun a y ws => ∃ (v M : Nat) (Ap : Option Addr) (cp : Nat), a = .slice Ap M cp ∧ y = .int .i64 (v : Int) ∧ v ≤ i ∧ Aside0 (M = (psTo l r nm order v 0).length) ∧ Aside0 (∃ vs, Rows2 ws (bo + 1) bo vs (gsTo i l r nm order v 0)) ∧ Aside0 (Kd.R kp 84 ws w5.heap.size (fun _ => True) (.slice Ap M cp) (psTo l r nm order v 0)) ∧ Aside0 (Below w5.heap.size w5 ws)) (fun _ y _ => i - (intOf y).toNat)
     case atStart => exact ⟨0, 0, none, 0, rfl, rfl, by omega, ⟨by rw [psTo_zero]; rfl⟩, HG0, HP0, HB5⟩
     case round =>
      clear HP0 HG0 HB5
      obtain ⟨v, M, Ap, cp, rfl, rfl, hvi, HMM, HG, HPR, HE⟩ := hrel
      have hX := (HE.out.block _ (lt_of HX5.out)).trans HX5.out
      have x0 : wr.cell? ⟨b2, 0, none⟩ = some (.int .i64 (i : Int)) := heap_cell hX rfl
      have x2 : wr.cell? ⟨b2, 2, none⟩ = some (.slice A1 r.length c1) := heap_cell hX rfl
      clear hX
      by_cases hlt : v < i
      ·have HVR : Aside0 (v < r.length) := ⟨by rw [HM.out.rot.len]; exact hlt⟩
       have HVI := Aside0.mk hlt
       obtain ⟨ad, D, cD, eA, y0, hcD, hrw⟩ := row_at HR.out HVR.out
       subst eA
       replace y0 := ((HEW.out.trans (HE.out.mono HEW.out.size)).cell (cell_lt y0)).trans y0
       obtain ⟨row, hrow⟩ : ∃ row, row = gl r v := ⟨_, rfl⟩
       rw [← hrow] at y0 hcD hrw
       have HROW := Aside0.mk hrow
       have HD := Aside0.mk hrw
       have HDC := Aside0.mk hcD
       have hvr : (v : Int) < (r.length : Int) := by have := HVR.out; omega
       have c0 : decide ((v : Int) < (i : Int)) = true := decide_eq_true (by omega)
       clear hrow hrw hcD
       go_wp2_with fail
       clear y0 c0 x0 x2
       go_loopw [12, 15] (fun a y ws => ∃ (j M : Nat) (Ap : Option Addr) (cp : Nat), a = .slice Ap M cp ∧ y = .int .i64 (j : Int) ∧ j ≤ row.length ∧ Aside0 (M = (psTo l r nm order v j).length) ∧ Aside0 (∃ vs, Rows2 ws (bo + 1) bo vs (gsTo i l r nm order v j)) ∧ Aside0 (Kd.R kp 84 ws w5.heap.size (fun _ => True) (.slice Ap M cp) (psTo l r nm order v j)) ∧ Aside0 (Below w5.heap.size w5 ws)) (fun _ y _ => row.length - (intOf y).toNat)
       case atStart => exact ⟨0, M, Ap, cp, rfl, rfl, by omega, HMM, HG, HPR, HE⟩
       case round =>
        clear HMM HG HPR HE
        obtain ⟨j, M, Ap, cp, rfl, rfl, hj, HMM, HG, HPR, HE⟩ := hrel
        have HLR : Aside0 (row.length ≤ 8388608) := ⟨by
         obtain ⟨_, _, h3⟩ := HM.out.rows
         rw [HROW.out]
         exact (h3 _ (by unfold gl; rw [List.getD_eq_getElem?_getD, List.getElem?_eq_getElem HVR.out]; exact List.getElem_mem _)).1⟩
        have hlr := HLR.out
        by_cases hjr : j < row.length
        ·have HJR := Aside0.mk hjr
         have s1 : decide ((j : Int) < (row.length : Int)) = true := decide_eq_true (by omega)
         obtain ⟨at_, hat⟩ : ∃ a, a = (j + shf order row) % row.length := ⟨_, rfl⟩
         have HAT := Aside0.mk hat
         have hatl : at_ < row.length := by rw [hat]; exact Nat.mod_lt _ (by omega)
         obtain ⟨bt, hbt⟩ : ∃ bt, bt = decide (0 < order.length ∧ 0 < gi order 0) := ⟨_, rfl⟩
         have HBT := Aside0.mk hbt
         clear hbt
         go_upto_region 25 with (fail)
         go_cut [108] from 93 to 157 (fun s wx => s = .bool bt ∧ wr = wx)
         case first =>
          by_cases ho1 : 0 < order.length
          ·obtain ⟨ad2, eO, y1⟩ := Kd.at_int (Kd.C_below HO.out (HEW.out.trans (HE.out.mono HEW.out.size))) ((0 : Nat) : Int) (by omega) (by omega)
           subst eO
           rw [gi_rd, Int.toNat_natCast] at y1
           have y2 : wr.cell? ad2 = some (.int .i64 (gi order 0)) := by have h := y1; rw [Addr.add_zero'] at h; exact h
           obtain ⟨o0, ho0⟩ : ∃ o0, o0 = gi order 0 := ⟨_, rfl⟩
           rw [← ho0] at y1 y2
           have d1 : decide ((order.length : Int) > 0) = true := decide_eq_true (by omega)
           have d1' : decide ((0 : Int) < (order.length : Int)) = true := decide_eq_true (by omega)
           have d3 : bt = decide (0 < o0) := by rw [HBT.out, ho0]; simp [ho1]
           clear ho0 hat
           go_wp2_with fail
           go_meet
           case rel => exact ⟨by rw [d3], rfl⟩
          ·have d1 : decide ((order.length : Int) > 0) = false := decide_eq_false (by omega)
           have d1' : decide ((0 : Int) < (order.length : Int)) = false := decide_eq_false (by omega)
           have d3 : bt = false := by rw [HBT.out]; exact decide_eq_false (fun q => ho1 q.1)
           clear hat
           go_wp2_with fail
           go_meet
           case rel => exact ⟨by rw [d3], rfl⟩
         case rest =>
         obtain ⟨rfl, rfl⟩ := hcut
         go_upto_if 108 with (fail)
         go_cut [16] from 93 to 157 (fun s wx => s = .int .i64 (at_ : Int) ∧ wr = wx)
         case first =>
          cases hb2 : bt with
          | true =>
           subst hb2
           have hsh : 0 < order.length ∧ 0 < gi order 0 := of_decide_eq_true HBT.out.symm
           obtain ⟨ad2, eO, y1⟩ := Kd.at_int (Kd.C_below HO.out (HEW.out.trans (HE.out.mono HEW.out.size))) ((0 : Nat) : Int) (by omega) (by omega)
           subst eO
           rw [gi_rd, Int.toNat_natCast] at y1
           have y2 : wr.cell? ad2 = some (.int .i64 (gi order 0)) := by have h := y1; rw [Addr.add_zero'] at h; exact h
           obtain ⟨sh, hs⟩ : ∃ sh, sh = shf order row := ⟨_, rfl⟩
           obtain ⟨o0, ho0⟩ : ∃ o0, o0 = gi order 0 := ⟨_, rfl⟩
           have hs1 : Int.tmod o0 (row.length : Int) = (sh : Int) := by
            have h2 := Int.tmod_nonneg (row.length : Int) (show (0 : Int) ≤ o0 by omega)
            rw [hs]
            unfold shf
            rw [if_pos hsh, ← ho0]
            omega
           rw [← hs] at hat
           rw [← ho0] at y1 y2 hsh
           have hshl : sh < row.length := by rw [hs]; exact shf_lt (by omega)
           have d3 : ((row.length : Int) == 0) = false := beq_eq_false_iff_ne.2 (by omega)
           have d4 : ¬ (row.length : Int) = 0 := by omega
           obtain ⟨jq, hjq⟩ : ∃ jq, jq = j + sh := ⟨_, rfl⟩
           have d5 : IntKind.i64.wrap ((j : Int) + (sh : Int)) = (jq : Int) := by rw [IntWalk.i64_in _ (by omega)]; omega
           rw [← hjq] at hat
           have d6 : Int.tmod (jq : Int) (row.length : Int) = (at_ : Int) := by rw [hat]; rfl
           have d7 : 0 < order.length := hsh.1
           clear hs ho0 hat hjq hsh
           go_wp2_with fail
           go_meet
           case rel => exact ⟨rfl, rfl⟩
          | false =>
           subst hb2
           have hsh : ¬ (0 < order.length ∧ 0 < gi order 0) := of_decide_eq_false HBT.out.symm
           obtain rfl : at_ = j := by
            rw [hat]
            unfold shf
            rw [if_neg hsh, Nat.add_zero, Nat.mod_eq_of_lt hjr]
           clear hat hsh
           go_wp2_with fail
           go_meet
           case rel => exact ⟨rfl, rfl⟩
         case rest =>
          obtain ⟨rfl, rfl⟩ := hcut
          clear hat s1
          go_upto_region 27 with (fail)
          have HTO : Aside0 (tangramref03_To.f (i : Int) l (gi row at_) = some (too (toOf l) (gi row at_))) := ⟨by
           rw [HROW.out]
           exact to_half HM.out HVI.out (by rw [← HROW.out]; exact hatl)⟩
          have hb : Below wr.heap.size wr wr.drew := (Below.refl _ _).drew
          have hwd : Below w.heap.size w wr.drew := HEW.out.trans ((HE.out.trans (hb.mono HE.out.size)).mono HEW.out.size)
          have hxd := ((HE.out.trans (hb.mono HE.out.size)).block _ (lt_of HX5.out)).trans HX5.out
          have x0 : wr.drew.cell? ⟨b2, 0, none⟩ = some (.int .i64 (i : Int)) := heap_cell hxd rfl
          have x1 : wr.drew.cell? ⟨b2, 1, none⟩ = some (.slice A l.length c) := heap_cell hxd rfl
          obtain ⟨ad3, eD, y3⟩ := Kd.at_int (Kd.C_below HD.out hwd) (at_ : Int) (by omega) (by omega)
          subst eD
          rw [gi_rd, Int.toNat_natCast] at y3
          obtain ⟨h, hh⟩ : ∃ h, h = gi row at_ := ⟨_, rfl⟩
          obtain ⟨t, ht⟩ : ∃ t, t = too (toOf l) h := ⟨_, rfl⟩
          rw [← hh, ← ht] at HTO
          rw [← hh] at y3
          have HH := Aside0.mk hh
          have HTT := Aside0.mk ht
          have HLD := Aside0.mk (Kd.C_below HL.out hwd)
          have gat : (at_ : Int) < (row.length : Int) := by omega
          clear hxd hwd hb hh ht
          refine start_ (n := 8) (S := fun w' => w'.cell? ⟨b2, 0, none⟩ = some (.int .i64 (i : Int)) ∧ w'.cell? ⟨b2, 1, none⟩ = some (.slice A l.length c) ∧ w'.cell? (ad3.add at_) = some (.int .i64 h)) (ds := [6]) #[false, false, false, false, false, false, false, false] (by kernel_rfl) rfl rfl ⟨x0, x1, y3⟩ (fun hHeld => ?_)
          refine pure_ (i := 0) (N := some 120) (v := ?_) (a' := ?_) #[true, false, false, false, false, false, false, false] rfl rfl (by kernel_rfl) (fun _ _ _ h => h) (Or.inl ⟨by rfl, ?_⟩) ?_ ?_
          rotate_left
          ·intro w'
           go_simp
           with_reducible rfl
          rotate_left
          ·simp only [Act.put, List.setIfInBounds_toArray, List.set_cons_zero, List.set_cons_succ, i64_w, i32_w]
           rfl
          refine pure_ (i := 2) (N := some 122) (v := ?_) (a' := ?_) #[true, false, true, false, false, false, false, false] rfl rfl (by kernel_rfl) (fun _ _ _ h => h) (Or.inl ⟨by rfl, ?_⟩) ?_ ?_
          rotate_left
          ·intro w'
           go_simp
           with_reducible rfl
          rotate_left
          ·simp only [Act.put, List.setIfInBounds_toArray, List.set_cons_zero, List.set_cons_succ, i64_w, i32_w]
           rfl
          refine pure_ (i := 3) (N := some 123) (v := ?_) (a' := ?_) #[true, false, true, true, false, false, false, false] rfl rfl (by kernel_rfl) (fun _ _ _ h => h) (Or.inl ⟨by rfl, ?_⟩) ?_ ?_
          rotate_left
          ·intro w'
           go_simp
           with_reducible rfl
          rotate_left
          ·simp only [Act.put, List.setIfInBounds_toArray, List.set_cons_zero, List.set_cons_succ, i64_w, i32_w]
           rfl
          refine pure_ (i := 4) (N := some 124) (v := ?_) (a' := ?_) #[true, false, true, true, true, false, false, false] rfl rfl (by kernel_rfl) (fun _ _ _ h => h) (Or.inl ⟨by rfl, ?_⟩) ?_ ?_
          rotate_left
          ·intro w'
           go_simp
           with_reducible rfl
          rotate_left
          ·simp only [Act.put, List.setIfInBounds_toArray, List.set_cons_zero, List.set_cons_succ, i64_w, i32_w]
           rfl
          refine take_ (i := 1) (N := some 121) (v := ?_) (a' := ?_) #[true, true, true, true, true, false, false, false] rfl rfl (by kernel_rfl) (fun _ _ _ h => h) (Or.inl ⟨by rfl, ?_⟩) hHeld ?_ ?_
          rotate_left
          ·rintro w' ⟨s0, s1, s2⟩
           go_simp
           with_reducible rfl
          rotate_left
          ·simp only [Act.put, List.setIfInBounds_toArray, List.set_cons_zero, List.set_cons_succ, i64_w, i32_w]
           rfl
          refine take_ (i := 5) (N := some 125) (v := ?_) (a' := ?_) #[true, true, true, true, true, true, false, false] rfl rfl (by kernel_rfl) (fun _ _ _ h => h) (Or.inl ⟨by rfl, ?_⟩) hHeld ?_ ?_
          rotate_left
          ·rintro w' ⟨s0, s1, s2⟩
           go_simp
           with_reducible rfl
          rotate_left
          ·simp only [Act.put, List.setIfInBounds_toArray, List.set_cons_zero, List.set_cons_succ, i64_w, i32_w]
           rfl
          refine last_ (i := 6) (N := some 126) #[true, true, true, true, true, true, true, false] rfl rfl (by kernel_rfl) (by decide) (fun K hK => ?_)
          refine goes_ Try.func27 (by kernel_rfl) rfl #[.agg #[.int .i64 (i : Int), .slice A l.length c], .int .i64 h] (by rfl) rfl rfl (by simp only [List.map_toArray, List.map_cons, List.map_nil]; rfl) ?_
          with_reducible refine (tangramref03_To.calls (i : Int) A c l h t _ HLD.out HC.out HTO.out).mono ?_
          rintro e' w9 ⟨rfl, hb⟩
          refine ⟨_, rfl, ?_⟩
          have HBT := Aside0.mk hb
          clear hb
          refine hK.out _ _ ?_
          clear hK K
          refine norm_ (a' := ?_) ?_ ?_
          rotate_left
          ·show Act.put _ (some 126) _ = _
           simp only [Act.put, List.setIfInBounds_toArray, List.set_cons_zero, List.set_cons_succ, i64_w, i32_w]
           rfl
          refine pure_ (i := 7) (N := some 17) (v := ?_) (a' := ?_) #[true, true, true, true, true, true, true, true] rfl rfl (by kernel_rfl) (fun _ _ _ h => h) (Or.inl ⟨by rfl, ?_⟩) ?_ ?_
          rotate_left
          ·intro w'
           go_simp
           with_reducible rfl
          rotate_left
          ·simp only [Act.put, List.setIfInBounds_toArray, List.set_cons_zero, List.set_cons_succ, i64_w, i32_w]
           rfl
          refine done_ (by kernel_rfl) ?_
          clear x0 x1 y3
          have hb : Below wr.heap.size wr w9 := ((Below.refl _ _).drew).trans (HBT.out.mono (Nat.le_refl _))
          have HE9 : Aside0 (Below w5.heap.size w5 w9) := ⟨HE.out.trans (hb.mono HE.out.size)⟩
          have HT9 : Aside0 (IRow w9 bn nm) := ⟨(HE9.out.block _ (lt_of HT.out)).trans HT.out⟩
          have HP9 : Aside0 (Kd.R kp 84 w9 w5.heap.size (fun _ => True) (.slice Ap M cp) (psTo l r nm order v j)) := ⟨Kd.R_below HPR.out hb⟩
          obtain ⟨vs, hG⟩ := HG.out
          have HG9 : Aside0 (Rows2 w9 (bo + 1) bo vs (gsTo i l r nm order v j)) := ⟨hG.below hb⟩
          clear hG hb HG HPR HE HBT
          obtain ⟨u, hu, hun⟩ : ∃ u : Nat, gi nm v = (u : Int) ∧ u < i := by
           have := HNM.out.rng v HVI.out
           exact ⟨(gi nm v).toNat, by omega, by omega⟩
          obtain ⟨tt, htt, httn⟩ : ∃ tt : Nat, t = (tt : Int) ∧ tt < i := by
           have a := (row_in HM.out HVI.out (j := at_) (by rw [← HROW.out]; exact hatl)).1
           rw [← HROW.out, ← HH.out] at a
           have b := (web HM.out HP.out).to a
           rw [← HTT.out] at b
           exact ⟨t.toNat, by omega, by omega⟩
          have hjg : j < (gl r v).length := by rw [← HROW.out]; exact HJR.out
          have hyv : gi (rowN l r nm order v) j = gi nm tt := by
           rw [rowN_at nm order hjg, ← HROW.out, ← HAT.out, ← HH.out, ← HTT.out, htt, Int.toNat_natCast]
          have hsuc := gsTo_succ (r := r) (l := l) (order := order) HNM.out HVI.out hjg hun hu
          have hps := psTo_succ (l := l) (nm := nm) (order := order) hjg
          rw [hyv] at hsuc hps
          rw [hu] at hps
          obtain ⟨y, hy⟩ : ∃ y, y = gi nm tt := ⟨_, rfl⟩
          rw [← hy] at hsuc hps
          have z1 := HT9.out.cell (i := v) (by rw [HNM.out.len]; exact HVI.out)
          have z2 := HT9.out.cell (i := tt) (by rw [HNM.out.len]; exact httn)
          rw [hu] at z1
          rw [← hy] at z2
          have HSUC := Aside0.mk hsuc
          have HPS := Aside0.mk hps
          have HU := Aside0.mk hu
          have HYT := Aside0.mk hy
          have HVB : Aside0 (u < (gsTo i l r nm order v j).length) := ⟨by rw [gsTo_length]; exact hun⟩
          obtain ⟨g, hrow⟩ : ∃ g, g = gl (gsTo i l r nm order v j) u := ⟨_, rfl⟩
          have ho := HG9.out.own u HVB.out
          rw [← hrow] at ho
          obtain ⟨Av, cv, hV⟩ := own_sl ho
          have HV := Aside0.mk hV
          rw [hV] at ho
          have hcl := HG9.out.cell (j := u) HVB.out
          rw [hV] at hcl
          have HRW := Aside0.mk hrow
          have HRL : Aside0 (g.length ≤ 8388608) := ⟨by
           rw [hrow, gl_gsTo _ _ hun, invT_of HNM.out HVI.out hun hu, if_neg (by omega), if_pos rfl, List.length_take, rowN_length, ← HROW.out]
           have := HLR.out
           omega⟩
          have HLB : Aside0 (((psTo l r nm order v j).length + 1) * 16 ≤ 140737488355328) := ⟨by
           have h1 := psTo_le HM.out nm order HVI.out (Nat.le_of_lt hjg)
           have h2 := HM.out.good.2.2.1
           omega⟩
          have HO : Aside0 (w9.drew.ownsRow (bo + 1) 3 1 (.slice Av g.length cv) g.length (encs (Value.int .i64) g)) := ⟨ho⟩
          have HGD : Aside0 (Rows2 w9.drew (bo + 1) bo vs (gsTo i l r nm order v j)) := ⟨⟨HG9.out.len, HG9.out.out, HG9.out.own, HG9.out.col, HG9.out.base⟩⟩
          have HBD : Aside0 (Below w5.heap.size w5 w9.drew) := ⟨HE9.out.drew⟩
          have HPD : Aside0 (Kd.R kp 84 w9.drew w5.heap.size (fun _ => True) (.slice Ap M cp) (psTo l r nm order v j)) := ⟨Kd.R_below HP9.out ((Below.refl _ _).drew)⟩
          have HS0 : Aside0 (w9.drew.cell? ⟨bn, v, none⟩ = some (.int .i64 (u : Int))) := ⟨z1⟩
          have HS1 : Aside0 (w9.drew.cell? ⟨bn, tt, none⟩ = some (.int .i64 y)) := ⟨z2⟩
          have HS2 : Aside0 (w9.drew.cell? ⟨bo, u, none⟩ = some (.slice Av g.length cv)) := ⟨hcl⟩
          have HTL : Aside0 (bn < w5.heap.size) := ⟨lt_of HT.out⟩
          subst htt
          clear ho hV hcl hrow z1 z2 hy hu hsuc hps hyv hjg HG9 HP9 HT9 HE9
          go_wp2_with fail
          refine start_ (n := 20) (S := fun w' => w'.cell? ⟨bn, v, none⟩ = some (.int .i64 (u : Int)) ∧ w'.cell? ⟨bn, tt, none⟩ = some (.int .i64 y) ∧ w'.cell? ⟨bo, u, none⟩ = some (.slice Av g.length cv)) (ds := [19]) #[false, false, false, false, false, false, false, false, false, false, false, false, false, false, false, false, false, false, false, false] (by kernel_rfl) rfl rfl ⟨HS0.out, HS1.out, HS2.out⟩ (fun hHeld => ?_)
          refine pure_ (i := 0) (N := some 127) (v := ?_) (a' := ?_) #[true, false, false, false, false, false, false, false, false, false, false, false, false, false, false, false, false, false, false, false] rfl rfl (by kernel_rfl) (fun _ _ _ h => h) (Or.inl ⟨by rfl, ?_⟩) ?_ ?_
          rotate_left
          ·intro w'
           go_simp
           with_reducible rfl
          rotate_left
          ·simp only [Act.put, List.setIfInBounds_toArray, List.set_cons_zero, List.set_cons_succ, i64_w, i32_w]
           rfl
          refine pure_ (i := 1) (N := some 128) (v := ?_) (a' := ?_) #[true, true, false, false, false, false, false, false, false, false, false, false, false, false, false, false, false, false, false, false] rfl rfl (by kernel_rfl) (fun _ _ _ h => h) (Or.inl ⟨by rfl, ?_⟩) ?_ ?_
          rotate_left
          ·intro w'
           go_simp
           with_reducible rfl
          rotate_left
          ·simp only [Act.put, List.setIfInBounds_toArray, List.set_cons_zero, List.set_cons_succ, i64_w, i32_w]
           rfl
          refine pure_ (i := 2) (N := some 129) (v := ?_) (a' := ?_) #[true, true, true, false, false, false, false, false, false, false, false, false, false, false, false, false, false, false, false, false] rfl rfl (by kernel_rfl) (fun _ _ _ h => h) (Or.inl ⟨by rfl, ?_⟩) ?_ ?_
          rotate_left
          ·intro w'
           go_simp
           with_reducible rfl
          rotate_left
          ·simp only [Act.put, List.setIfInBounds_toArray, List.set_cons_zero, List.set_cons_succ, i64_w, i32_w]
           rfl
          refine pure_ (i := 3) (N := some 130) (v := ?_) (a' := ?_) #[true, true, true, true, false, false, false, false, false, false, false, false, false, false, false, false, false, false, false, false] rfl rfl (by kernel_rfl) (fun _ _ _ h => h) (Or.inl ⟨by rfl, ?_⟩) ?_ ?_
          rotate_left
          ·intro w'
           go_simp
           with_reducible rfl
          rotate_left
          ·simp only [Act.put, List.setIfInBounds_toArray, List.set_cons_zero, List.set_cons_succ, i64_w, i32_w]
           rfl
          refine pure_ (i := 5) (N := some 132) (v := ?_) (a' := ?_) #[true, true, true, true, false, true, false, false, false, false, false, false, false, false, false, false, false, false, false, false] rfl rfl (by kernel_rfl) (fun _ _ _ h => h) (Or.inl ⟨by rfl, ?_⟩) ?_ ?_
          rotate_left
          ·intro w'
           go_simp
           with_reducible rfl
          rotate_left
          ·simp only [Act.put, List.setIfInBounds_toArray, List.set_cons_zero, List.set_cons_succ, i64_w, i32_w]
           rfl
          refine pure_ (i := 6) (N := some 133) (v := ?_) (a' := ?_) #[true, true, true, true, false, true, true, false, false, false, false, false, false, false, false, false, false, false, false, false] rfl rfl (by kernel_rfl) (fun _ _ _ h => h) (Or.inl ⟨by rfl, ?_⟩) ?_ ?_
          rotate_left
          ·intro w'
           go_simp
           with_reducible rfl
          rotate_left
          ·simp only [Act.put, List.setIfInBounds_toArray, List.set_cons_zero, List.set_cons_succ, i64_w, i32_w]
           rfl
          refine pure_ (i := 7) (N := some 134) (v := ?_) (a' := ?_) #[true, true, true, true, false, true, true, true, false, false, false, false, false, false, false, false, false, false, false, false] rfl rfl (by kernel_rfl) (fun _ _ _ h => h) (Or.inl ⟨by rfl, ?_⟩) ?_ ?_
          rotate_left
          ·intro w'
           go_simp
           with_reducible rfl
          rotate_left
          ·simp only [Act.put, List.setIfInBounds_toArray, List.set_cons_zero, List.set_cons_succ, i64_w, i32_w]
           rfl
          refine pure_ (i := 8) (N := some 135) (v := ?_) (a' := ?_) #[true, true, true, true, false, true, true, true, true, false, false, false, false, false, false, false, false, false, false, false] rfl rfl (by kernel_rfl) (fun _ _ _ h => h) (Or.inl ⟨by rfl, ?_⟩) ?_ ?_
          rotate_left
          ·intro w'
           go_simp
           with_reducible rfl
          rotate_left
          ·simp only [Act.put, List.setIfInBounds_toArray, List.set_cons_zero, List.set_cons_succ, i64_w, i32_w]
           rfl
          refine pure_ (i := 12) (N := some 139) (v := ?_) (a' := ?_) #[true, true, true, true, false, true, true, true, true, false, false, false, true, false, false, false, false, false, false, false] rfl rfl (by kernel_rfl) (fun _ _ _ h => h) (Or.inl ⟨by rfl, ?_⟩) ?_ ?_
          rotate_left
          ·intro w'
           go_simp
           with_reducible rfl
          rotate_left
          ·simp only [Act.put, List.setIfInBounds_toArray, List.set_cons_zero, List.set_cons_succ, i64_w, i32_w]
           rfl
          refine pure_ (i := 13) (N := some 140) (v := ?_) (a' := ?_) #[true, true, true, true, false, true, true, true, true, false, false, false, true, true, false, false, false, false, false, false] rfl rfl (by kernel_rfl) (fun _ _ _ h => h) (Or.inl ⟨by rfl, ?_⟩) ?_ ?_
          rotate_left
          ·intro w'
           go_simp
           with_reducible rfl
          rotate_left
          ·simp only [Act.put, List.setIfInBounds_toArray, List.set_cons_zero, List.set_cons_succ, i64_w, i32_w]
           rfl
          refine pure_ (i := 14) (N := some 141) (v := ?_) (a' := ?_) #[true, true, true, true, false, true, true, true, true, false, false, false, true, true, true, false, false, false, false, false] rfl rfl (by kernel_rfl) (fun _ _ _ h => h) (Or.inl ⟨by rfl, ?_⟩) ?_ ?_
          rotate_left
          ·intro w'
           go_simp
           with_reducible rfl
          rotate_left
          ·simp only [Act.put, List.setIfInBounds_toArray, List.set_cons_zero, List.set_cons_succ, i64_w, i32_w]
           rfl
          refine take_ (i := 4) (N := some 131) (v := ?_) (a' := ?_) #[true, true, true, true, true, true, true, true, true, false, false, false, true, true, true, false, false, false, false, false] rfl rfl (by kernel_rfl) (fun _ _ _ h => h) (Or.inl ⟨by rfl, ?_⟩) hHeld ?_ ?_
          rotate_left
          ·rintro w' ⟨s0, s1, s2⟩
           go_simp
           with_reducible rfl
          rotate_left
          ·simp only [Act.put, List.setIfInBounds_toArray, List.set_cons_zero, List.set_cons_succ, i64_w, i32_w]
           rfl
          refine take_ (i := 9) (N := some 136) (v := ?_) (a' := ?_) #[true, true, true, true, true, true, true, true, true, true, false, false, true, true, true, false, false, false, false, false] rfl rfl (by kernel_rfl) (fun _ _ _ h => h) (Or.inl ⟨by rfl, ?_⟩) hHeld ?_ ?_
          rotate_left
          ·rintro w' ⟨s0, s1, s2⟩
           go_simp
           with_reducible rfl
          rotate_left
          ·simp only [Act.put, List.setIfInBounds_toArray, List.set_cons_zero, List.set_cons_succ, i64_w, i32_w]
           rfl
          refine pure_ (i := 10) (N := some 137) (v := ?_) (a' := ?_) #[true, true, true, true, true, true, true, true, true, true, true, false, true, true, true, false, false, false, false, false] rfl rfl (by kernel_rfl) (fun _ _ _ h => h) (Or.inl ⟨by rfl, ?_⟩) ?_ ?_
          rotate_left
          ·intro w'
           go_simp
           with_reducible rfl
          rotate_left
          ·simp only [Act.put, List.setIfInBounds_toArray, List.set_cons_zero, List.set_cons_succ, i64_w, i32_w]
           rfl
          refine take_ (i := 11) (N := some 138) (v := ?_) (a' := ?_) #[true, true, true, true, true, true, true, true, true, true, true, true, true, true, true, false, false, false, false, false] rfl rfl (by kernel_rfl) (fun _ _ _ h => h) (Or.inl ⟨by rfl, ?_⟩) hHeld ?_ ?_
          rotate_left
          ·rintro w' ⟨s0, s1, s2⟩
           go_simp
           with_reducible rfl
          rotate_left
          ·simp only [Act.put, List.setIfInBounds_toArray, List.set_cons_zero, List.set_cons_succ, i64_w, i32_w]
           rfl
          refine take_ (i := 15) (N := some 142) (v := ?_) (a' := ?_) #[true, true, true, true, true, true, true, true, true, true, true, true, true, true, true, true, false, false, false, false] rfl rfl (by kernel_rfl) (fun _ _ _ h => h) (Or.inl ⟨by rfl, ?_⟩) hHeld ?_ ?_
          rotate_left
          ·rintro w' ⟨s0, s1, s2⟩
           go_simp
           with_reducible rfl
          rotate_left
          ·simp only [Act.put, List.setIfInBounds_toArray, List.set_cons_zero, List.set_cons_succ, i64_w, i32_w]
           rfl
          refine one_ (i := 16) (N := some 143) #[true, true, true, true, true, true, true, true, true, true, true, true, true, true, true, true, true, false, false, false] rfl rfl (by kernel_rfl) (by decide) (fun K hK => ?_)
          refine value_ (w1 := ?_) (v := ?_) (by rfl) rfl ?_ ?_
          rotate_left 2
          ·go_simp
           constructor
           ·rfl
           ·rfl
          refine hK.out _ _ ⟨(World.cell?_alloc_lt _ _ _ (World.block_lt_of_cell? _ _ hHeld.1)).trans hHeld.1, (World.cell?_alloc_lt _ _ _ (World.block_lt_of_cell? _ _ hHeld.2.1)).trans hHeld.2.1, (World.cell?_alloc_lt _ _ _ (World.block_lt_of_cell? _ _ hHeld.2.2)).trans hHeld.2.2⟩ (fun hHeld => ?_)
          clear hK K
          refine norm_ (a' := ?_) ?_ ?_
          rotate_left
          ·show Act.put _ (some 143) _ = _
           simp only [Act.put, List.setIfInBounds_toArray, List.set_cons_zero, List.set_cons_succ, i64_w, i32_w]
           rfl
          refine one_ (i := 17) (N := some 144) #[true, true, true, true, true, true, true, true, true, true, true, true, true, true, true, true, true, true, false, false] rfl rfl (by kernel_rfl) (by decide) (fun K hK => ?_)
          refine step_append_cells (bo + 1) (by rfl) (.tmp 138) (.tmp 143) 32 3 (.int .i64 0) 1 8 rfl Try.underlying32 info_int rfl (by decide) (by omega) (.slice Av g.length cv) g.length (encs (Value.int .i64) g) [.int .i64 y] rfl rfl rfl ?aN HO.out (Below.refl _ _) HGD.out.base ?aL ?_
          (case aN => intro u hu; simp at hu; subst hu; rfl)
          (case aL => have := HRL.out; omega)
          intro v1 w10 hown hb hg hat
          obtain ⟨A', c', rfl⟩ := own_sl hown
          have g1 := Rows2.app HGD.out (k := u) HVB.out (v' := .slice A' (g.length + 1) c') (x := y) (by rw [← HRW.out]; exact hown) (by rw [HV.out]; exact hg) (by rw [HV.out]; exact hat)
          rw [← HRW.out] at g1
          have e1 := HSUC.out
          rw [← HRW.out] at e1
          rw [e1] at g1
          have HG10 : Aside0 (∃ vs, Rows2 (w10.setCell ⟨bo, u, none⟩ (.slice A' (g.length + 1) c')) (bo + 1) bo vs (gsTo i l r nm order v (j + 1))) := ⟨_, g1⟩
          have HBa := Aside0.mk (HBD.out.grown hg HBD.out.size (fun k hk => by have := (HO.out.lt k hk).1; have := HBO.out; omega))
          have HB10 := Aside0.mk (HBa.out.setCell (p := ⟨bo, u, none⟩) (by have := HBO.out; simp; omega) (.slice A' (g.length + 1) c'))
          have ho1 : w10.heap[bo]? = some (.cells vs.toArray 32 (0, 0)) := (hg.block bo (lt_of HGD.out.out) (fun e => by have := (HO.out.lt bo e.symm).1; omega)).trans HGD.out.out
          have HP10 := Aside0.mk (Kd.R_set (Kd.R_over' (v := .slice Av g.length cv) HPD.out (own_typed HO.out) (by decide) hg) ho1 (by decide) u (.slice A' (g.length + 1) c'))
          have fz := heap_free ho1 u
          have cz : w10.cell? ⟨bo, u, none⟩ = some (.slice Av g.length cv) := by rw [← HV.out]; exact heap_cell ho1 (by have h9 := HGD.out.len; have h8 := HVB.out; simp [va_of (show u < vs.length by omega)])
          refine hK.out _ _ ⟨(HBa.out.cell (p := ⟨bn, v, none⟩) HTL.out).trans ((HBD.out.cell (p := ⟨bn, v, none⟩) HTL.out).symm.trans HS0.out), (HBa.out.cell (p := ⟨bn, tt, none⟩) HTL.out).trans ((HBD.out.cell (p := ⟨bn, tt, none⟩) HTL.out).symm.trans HS1.out), cz⟩ (fun hHeld => ?_)
          clear hK K
          refine norm_ (a' := ?_) ?_ ?_
          rotate_left
          ·show Act.put _ (some 144) _ = _
           simp only [Act.put, List.setIfInBounds_toArray, List.set_cons_zero, List.set_cons_succ, i64_w, i32_w]
           rfl
          refine pure_ (i := 18) (N := some 145) (v := ?_) (a' := ?_) #[true, true, true, true, true, true, true, true, true, true, true, true, true, true, true, true, true, true, true, false] rfl rfl (by kernel_rfl) (fun _ _ _ h => h) (Or.inl ⟨by rfl, ?_⟩) ?_ ?_
          rotate_left
          ·intro w'
           go_simp
           with_reducible rfl
          rotate_left
          ·simp only [Act.put, List.setIfInBounds_toArray, List.set_cons_zero, List.set_cons_succ, i64_w, i32_w]
           rfl
          refine last_ (i := 19) (N := none) #[true, true, true, true, true, true, true, true, true, true, true, true, true, true, true, true, true, true, true, true] rfl rfl (by kernel_rfl) (by decide) (fun K hK => ?_)
          refine skip_ (w1 := ?_) (by rfl) rfl ?_ ?_
          rotate_left
          ·go_simp
           rfl
          refine hK.out _ _ ?_
          clear hK K
          refine done_ (by kernel_rfl) ?_
          clear HO HGD HBD HPD HS0 HS1 HS2 hown hg hat hb g1 e1 ho1 fz cz HBa HSUC HRW HV HVB HRL
          generalize w10.setCell ⟨bo, u, none⟩ (.slice A' (g.length + 1) c') = w11 at HG10 HB10 HP10 ⊢
          have HS0 : Aside0 (w11.drew.cell? ⟨bn, v, none⟩ = some (.int .i64 (u : Int))) := ⟨by
           have h := HT.out.cell (i := v) (by rw [HNM.out.len]; exact HVI.out)
           rw [HU.out] at h
           exact (HB10.out.drew.cell (p := ⟨bn, v, none⟩) HTL.out).trans h⟩
          have HS1 : Aside0 (w11.drew.cell? ⟨bn, tt, none⟩ = some (.int .i64 y)) := ⟨by
           have h := HT.out.cell (i := tt) (by rw [HNM.out.len]; exact httn)
           rw [← HYT.out] at h
           exact (HB10.out.drew.cell (p := ⟨bn, tt, none⟩) HTL.out).trans h⟩
          obtain ⟨vs2, hG⟩ := HG10.out
          have HGD : Aside0 (Rows2 w11.drew (bo + 1) bo vs2 (gsTo i l r nm order v (j + 1))) := ⟨hG.below ((Below.refl _ _).drew)⟩
          have HBD : Aside0 (Below w5.heap.size w5 w11.drew) := ⟨HB10.out.drew⟩
          have HPD : Aside0 (Kd.R kp 84 w11.drew w5.heap.size (fun _ => True) (.slice Ap M cp) (psTo l r nm order v j)) := ⟨Kd.R_below HP10.out ((Below.refl _ _).drew)⟩
          clear hG HG10 HB10 HP10
          go_wp2_with fail
          refine start_ (n := 13) (S := fun w' => w'.cell? ⟨bn, v, none⟩ = some (.int .i64 (u : Int)) ∧ w'.cell? ⟨bn, tt, none⟩ = some (.int .i64 y)) (ds := [11]) #[false, false, false, false, false, false, false, false, false, false, false, false, false] (by kernel_rfl) rfl rfl ⟨HS0.out, HS1.out⟩ (fun hHeld => ?_)
          refine pure_ (i := 0) (N := some 146) (v := ?_) (a' := ?_) #[true, false, false, false, false, false, false, false, false, false, false, false, false] rfl rfl (by kernel_rfl) (fun _ _ _ h => h) (Or.inl ⟨by rfl, ?_⟩) ?_ ?_
          rotate_left
          ·intro w'
           go_simp
           with_reducible rfl
          rotate_left
          ·simp only [Act.put, List.setIfInBounds_toArray, List.set_cons_zero, List.set_cons_succ, i64_w, i32_w]
           rfl
          refine pure_ (i := 1) (N := some 147) (v := ?_) (a' := ?_) #[true, true, false, false, false, false, false, false, false, false, false, false, false] rfl rfl (by kernel_rfl) (fun _ _ _ h => h) (Or.inl ⟨by rfl, ?_⟩) ?_ ?_
          rotate_left
          ·intro w'
           go_simp
           with_reducible rfl
          rotate_left
          ·simp only [Act.put, List.setIfInBounds_toArray, List.set_cons_zero, List.set_cons_succ, i64_w, i32_w]
           rfl
          refine pure_ (i := 2) (N := some 148) (v := ?_) (a' := ?_) #[true, true, true, false, false, false, false, false, false, false, false, false, false] rfl rfl (by kernel_rfl) (fun _ _ _ h => h) (Or.inl ⟨by rfl, ?_⟩) ?_ ?_
          rotate_left
          ·intro w'
           go_simp
           with_reducible rfl
          rotate_left
          ·simp only [Act.put, List.setIfInBounds_toArray, List.set_cons_zero, List.set_cons_succ, i64_w, i32_w]
           rfl
          refine pure_ (i := 3) (N := some 149) (v := ?_) (a' := ?_) #[true, true, true, true, false, false, false, false, false, false, false, false, false] rfl rfl (by kernel_rfl) (fun _ _ _ h => h) (Or.inl ⟨by rfl, ?_⟩) ?_ ?_
          rotate_left
          ·intro w'
           go_simp
           with_reducible rfl
          rotate_left
          ·simp only [Act.put, List.setIfInBounds_toArray, List.set_cons_zero, List.set_cons_succ, i64_w, i32_w]
           rfl
          refine pure_ (i := 5) (N := some 151) (v := ?_) (a' := ?_) #[true, true, true, true, false, true, false, false, false, false, false, false, false] rfl rfl (by kernel_rfl) (fun _ _ _ h => h) (Or.inl ⟨by rfl, ?_⟩) ?_ ?_
          rotate_left
          ·intro w'
           go_simp
           with_reducible rfl
          rotate_left
          ·simp only [Act.put, List.setIfInBounds_toArray, List.set_cons_zero, List.set_cons_succ, i64_w, i32_w]
           rfl
          refine pure_ (i := 6) (N := some 152) (v := ?_) (a' := ?_) #[true, true, true, true, false, true, true, false, false, false, false, false, false] rfl rfl (by kernel_rfl) (fun _ _ _ h => h) (Or.inl ⟨by rfl, ?_⟩) ?_ ?_
          rotate_left
          ·intro w'
           go_simp
           with_reducible rfl
          rotate_left
          ·simp only [Act.put, List.setIfInBounds_toArray, List.set_cons_zero, List.set_cons_succ, i64_w, i32_w]
           rfl
          refine pure_ (i := 7) (N := some 153) (v := ?_) (a' := ?_) #[true, true, true, true, false, true, true, true, false, false, false, false, false] rfl rfl (by kernel_rfl) (fun _ _ _ h => h) (Or.inl ⟨by rfl, ?_⟩) ?_ ?_
          rotate_left
          ·intro w'
           go_simp
           with_reducible rfl
          rotate_left
          ·simp only [Act.put, List.setIfInBounds_toArray, List.set_cons_zero, List.set_cons_succ, i64_w, i32_w]
           rfl
          refine take_ (i := 4) (N := some 150) (v := ?_) (a' := ?_) #[true, true, true, true, true, true, true, true, false, false, false, false, false] rfl rfl (by kernel_rfl) (fun _ _ _ h => h) (Or.inl ⟨by rfl, ?_⟩) hHeld ?_ ?_
          rotate_left
          ·rintro w' ⟨s0, s1⟩
           go_simp
           with_reducible rfl
          rotate_left
          ·simp only [Act.put, List.setIfInBounds_toArray, List.set_cons_zero, List.set_cons_succ, i64_w, i32_w]
           rfl
          refine take_ (i := 8) (N := some 154) (v := ?_) (a' := ?_) #[true, true, true, true, true, true, true, true, true, false, false, false, false] rfl rfl (by kernel_rfl) (fun _ _ _ h => h) (Or.inl ⟨by rfl, ?_⟩) hHeld ?_ ?_
          rotate_left
          ·rintro w' ⟨s0, s1⟩
           go_simp
           with_reducible rfl
          rotate_left
          ·simp only [Act.put, List.setIfInBounds_toArray, List.set_cons_zero, List.set_cons_succ, i64_w, i32_w]
           rfl
          refine pure_ (i := 9) (N := some 155) (v := ?_) (a' := ?_) #[true, true, true, true, true, true, true, true, true, true, false, false, false] rfl rfl (by kernel_rfl) (fun _ _ _ h => h) (Or.inl ⟨by rfl, ?_⟩) ?_ ?_
          rotate_left
          ·intro w'
           go_simp
           with_reducible rfl
          rotate_left
          ·simp only [Act.put, List.setIfInBounds_toArray, List.set_cons_zero, List.set_cons_succ, i64_w, i32_w]
           rfl
          refine one_ (i := 10) (N := some 156) #[true, true, true, true, true, true, true, true, true, true, true, false, false] rfl rfl (by kernel_rfl) (by decide) (fun K hK => ?_)
          refine value_ (w1 := ?_) (v := ?_) (by rfl) rfl ?_ ?_
          rotate_left 2
          ·go_simp
           constructor
           ·rfl
           ·rfl
          refine hK.out _ _ ⟨(World.cell?_alloc_lt _ _ _ (World.block_lt_of_cell? _ _ hHeld.1)).trans hHeld.1, (World.cell?_alloc_lt _ _ _ (World.block_lt_of_cell? _ _ hHeld.2)).trans hHeld.2⟩ (fun hHeld => ?_)
          clear hK K
          refine norm_ (a' := ?_) ?_ ?_
          rotate_left
          ·show Act.put _ (some 156) _ = _
           simp only [Act.put, List.setIfInBounds_toArray, List.set_cons_zero, List.set_cons_succ, i64_w, i32_w]
           rfl
          refine last_ (i := 11) (N := some 157) #[true, true, true, true, true, true, true, true, true, true, true, true, false] rfl rfl (by kernel_rfl) (by decide) (fun K hK => ?_)
          refine Kd.R_append_step kp (w0 := w5) w5.heap.size (by rfl) (.tmp 146) (.tmp 156) 83 84 (.agg #[.int .i64 0, .int .i64 0]) 16 rfl Try.underlying83 info_pair rfl (by decide) (by decide) (.slice Ap M cp) (psTo l r nm order v j) ((u : Int), y) [.int .i64 (u : Int), .int .i64 y] (fun _ => True) (fun _ => False) rfl rfl rfl (fun _ hk => hk.elim) (fun _ _ => trivial) HPD.out HBD.out HBD.out.size HLB.out ?_
          intro v12 w12 hR hb hg hat
          obtain ⟨A12, c12, rfl⟩ := Kd.R_slice hR
          rw [← HPS.out] at hR ⊢
          have HP12 := Aside0.mk hR
          have HB12 := Aside0.mk hb
          have HG12 : Aside0 (∃ vs, Rows2 w12 (bo + 1) bo vs (gsTo i l r nm order v (j + 1))) := ⟨_, HGD.out.over hg (fun e => Kd.R_ne HPD.out HGD.out.out (by decide) e.symm) (fun k hk q hq => by obtain ⟨cells, hc⟩ := own_typed (HGD.out.own k hk) q hq; exact fun e => Kd.R_ne HPD.out hc (by decide) e.symm)⟩
          refine hK.out _ _ ?_
          clear hK K
          refine norm_ (a' := ?_) ?_ ?_
          rotate_left
          ·show Act.put _ (some 157) _ = _
           simp only [Act.put, List.setIfInBounds_toArray, List.set_cons_zero, List.set_cons_succ, i64_w, i32_w]
           rfl
          refine pure_ (i := 12) (N := some 12) (v := ?_) (a' := ?_) #[true, true, true, true, true, true, true, true, true, true, true, true, true] rfl rfl (by kernel_rfl) (fun _ _ _ h => h) (Or.inl ⟨by rfl, ?_⟩) ?_ ?_
          rotate_left
          ·intro w'
           go_simp
           with_reducible rfl
          rotate_left
          ·simp only [Act.put, List.setIfInBounds_toArray, List.set_cons_zero, List.set_cons_succ, i64_w, i32_w]
           rfl
          refine done_ (by kernel_rfl) ?_
          clear HGD HBD HPD HS0 HS1 hR hb hg hat HPS
          obtain ⟨M12, hM12⟩ : ∃ M12, M12 = (psTo l r nm order v (j + 1)).length := ⟨_, rfl⟩
          rw [← hM12] at HP12 ⊢
          have HM12 := Aside0.mk hM12
          clear hM12
          go_wp2_with fail
          go_roundw
          case rel => exact ⟨j + 1, M12, A12, c12, rfl, by go_num, by omega, HM12, HG12, HP12, HB12⟩
          case measure => simp [intOf]; omega
        ·obtain rfl : j = row.length := by omega
         have s1 : decide ((row.length : Int) < (row.length : Int)) = false := decide_eq_false (by omega)
         have s2 : ¬ row.length < row.length := by omega
         have s3 : decide (row.length < row.length) = false := decide_eq_false s2
         go_wp2_with fail
         clear s1 s2 s3
         have e1 : psTo l r nm order v row.length = psTo l r nm order (v + 1) 0 := by rw [HROW.out, psTo_next]
         have e2 : gsTo i l r nm order v row.length = gsTo i l r nm order (v + 1) 0 := by rw [HROW.out, gsTo_next]
         have HMM2 : Aside0 (M = (psTo l r nm order (v + 1) 0).length) := ⟨by rw [← e1]; exact HMM.out⟩
         have HG2 : Aside0 (∃ vs, Rows2 wr (bo + 1) bo vs (gsTo i l r nm order (v + 1) 0)) := ⟨by rw [← e2]; exact HG.out⟩
         have HP2 : Aside0 (Kd.R kp 84 wr w5.heap.size (fun _ => True) (.slice Ap M cp) (psTo l r nm order (v + 1) 0)) := ⟨by rw [← e1]; exact HPR.out⟩
         clear e1 e2
         go_roundw
         case rel => exact ⟨v + 1, M, Ap, cp, rfl, by go_num, by have := HVI.out; omega, HMM2, HG2, HP2, HE⟩
         case measure => have := HVI.out; simp [intOf]; omega
      ·have e : v = i := by omega
       subst e
       have c0 : decide ((v : Int) < (v : Int)) = false := decide_eq_false (by omega)
       have c0' : decide (v < v) = false := decide_eq_false (by omega)
       obtain ⟨PS, hPS⟩ : ∃ PS, PS = psTo l r nm order v 0 := ⟨_, rfl⟩
       obtain ⟨es, hes⟩ : ∃ es, es = makeL PS := ⟨_, rfl⟩
       obtain ⟨gs, hgs⟩ : ∃ gs, gs = gsTo v l r nm order v 0 := ⟨_, rfl⟩
       have HPSN : Aside0 (PS = psTo l r (nmTo v order order.length) order v 0) := ⟨by rw [← HNE.out]; exact hPS⟩
       have hm := HML.out
       have hof := HOF.out
       rw [← HNE.out, ← hPS] at hm
       rw [← HNE.out, ← hPS, ← hgs, ← hes] at hof
       rw [← hes] at hm
       have hp := HPR.out
       rw [← hPS] at hp
       obtain rfl : M = PS.length := by rw [hPS]; exact HMM.out
       have HRG : Aside0 (∀ k, k < PS.length → 0 ≤ (pe PS k).1 ∧ (pe PS k).1 < v ∧ 0 ≤ (pe PS k).2 ∧ (pe PS k).2 < v) := ⟨by rw [hPS]; exact fun k hk => psTo_in HM.out HP.out HL0.out HNM.out order hk⟩
       have HLB : Aside0 (PS.length ≤ 8388608) := ⟨by
        have h1 := rows_len HM.out (Nat.le_refl _)
        have h2 := HM.out.good.2.2.1
        rw [← psTo_len l r nm order, ← hPS] at h1
        omega⟩
       have HP2 := Aside0.mk hp
       have HCP : Aside0 (PS.length ≤ cp) := ⟨(Kd.R_reads' HP2.out).2.1⟩
       have HMK := Aside0.mk hm
       have HOF2 := Aside0.mk hof
       have HES := Aside0.mk hes
       have HGL : Aside0 (gs.length = v) := ⟨by rw [hgs, gsTo_length]⟩
       obtain ⟨vs, hG⟩ := HG.out
       rw [← hgs] at hG
       obtain ⟨_, _, hrot⟩ := Kd.S_reads' (hG.tells (base := 0) (Nat.zero_le _) (Nat.zero_le _) (by rw [HGL.out]; omega))
       have HBW : Aside0 (Below w.heap.size w wr) := ⟨HEW.out.trans (HE.out.mono HEW.out.size)⟩
       have HSA := Aside0.mk hrot
       have HX2 : Aside0 (wr.heap[b2 + 1]? = some (.cells #[.int .i64 0, .slice none 0 0, .slice none 0 0] 31 (0, 0))) := ⟨(HE.out.block _ (lt_of HY5.out)).trans HY5.out⟩
       have hvn : v ≤ 1048576 := by omega
       clear hPS hes hgs hm hof hp hG hrot HML HOF HNE HNM HPR HMM HG HE HEW HX5 HY5 HM HP HT HR HL HO
       go_wp2_with fail
       clear c0 c0' x0 x2
       refine (make_calls v Ap cp PS wr (PR.of_R HP2.out) HCP.out hvn HRG.out (by have := HLB.out; omega) (by rw [← HES.out]; exact HMK.out)).mono ?_
       rintro e w15 ⟨vv, rfl, hR, hb⟩
       rw [← HES.out] at hR
       obtain ⟨Ag, cg, rfl⟩ := Kd.R_slice hR
       have HGR := Aside0.mk hR
       have HBW5 : Aside0 (Below w.heap.size w w15) := ⟨HBW.out.trans (hb.mono HBW.out.size)⟩
       have HSA5 := Aside0.mk (Kd.C_below HSA.out hb)
       have HX3 : Aside0 (w15.heap[b2 + 1]? = some (.cells #[.int .i64 0, .slice none 0 0, .slice none 0 0] 31 (0, 0))) := ⟨(hb.block _ (lt_of HX2.out)).trans HX2.out⟩
       clear hR hb HBW HSA HX2 HP2 HCP HRG HMK
       have HXG : Aside0 ((w15.alloc (.cells #[.int .i64 (v : Int), .slice Ag es.length cg] 24 (0, 0))).heap[w15.heap.size]? = some (.cells #[.int .i64 (v : Int), .slice Ag es.length cg] 24 (0, 0))) := ⟨heap_last w15 _⟩
       have HBG : Aside0 (Below w15.heap.size w15 (w15.alloc (.cells #[.int .i64 (v : Int), .slice Ag es.length cg] 24 (0, 0)))) := ⟨(Below.refl _ _).alloc (Nat.le_refl _) _⟩
       go_upto_region 31 with (fail)
       obtain ⟨bg, hbg⟩ : ∃ bg, bg = w15.heap.size := ⟨_, rfl⟩
       have HBD : Aside0 (bg ≠ b2 + 1) := ⟨by have := lt_of HX3.out; omega⟩
       rw [← hbg] at HXG ⊢
       clear hbg
       generalize w15.alloc (.cells #[.int .i64 (v : Int), .slice Ag es.length cg] 24 (0, 0)) = w16 at HXG HBG ⊢
       have HB6 : Aside0 (Below w.heap.size w w16) := ⟨HBW5.out.trans (HBG.out.mono HBW5.out.size)⟩
       have HSA6 := Aside0.mk (Kd.C_below HSA5.out HBG.out)
       have HX6 : Aside0 (w16.heap[b2 + 1]? = some (.cells #[.int .i64 0, .slice none 0 0, .slice none 0 0] 31 (0, 0))) := ⟨(HBG.out.block _ (lt_of HX3.out)).trans HX3.out⟩
       have HG6 := Aside0.mk (Kd.R_below HGR.out HBG.out)
       have HCG : Aside0 (es.length ≤ cg) := ⟨(Kd.R_reads' HGR.out).2.1⟩
       clear HBW5 HSA5 HX3 HGR HBG
       have x0 : w16.cell? ⟨bg, 0, none⟩ = some (.int .i64 (v : Int)) := heap_cell HXG.out rfl
       have x1 : w16.cell? ⟨bg, 1, none⟩ = some (.slice Ag es.length cg) := heap_cell HXG.out rfl
       go_wp2_with fail
       clear x0 x1
       refine (of_calls k v Ag cg es (some ⟨bo, 0, none⟩) v gs r2 w16 HGL.out (Kd.R_reads' HG6.out).2.2 HCG.out HSA6.out (Nat.le_of_eq HGL.out) HOF2.out).mono ?_
       rintro e' w17 ⟨vr, rfl, hS, hb⟩
       obtain ⟨Ar, cr, rfl, hcr, _⟩ := Kd.S_reads hS
       have HB7 : Aside0 (Below w.heap.size w w17) := ⟨HB6.out.trans (hb.mono HB6.out.size)⟩
       have HX7 : Aside0 (w17.heap[b2 + 1]? = some (.cells #[.int .i64 0, .slice none 0 0, .slice none 0 0] 31 (0, 0))) := ⟨(hb.block _ (lt_of HX6.out)).trans HX6.out⟩
       have HY7 : Aside0 (w17.heap[bg]? = some (.cells #[.int .i64 (v : Int), .slice Ag es.length cg] 24 (0, 0))) := ⟨(hb.block _ (lt_of HXG.out)).trans HXG.out⟩
       have HG7 := Aside0.mk (Kd.R_below HG6.out hb)
       have HR7 := Aside0.mk hS
       have HCR := Aside0.mk hcr
       clear hb hS hcr HB6 HX6 HXG HG6 HSA6
       have x0 : w17.cell? ⟨bg, 0, none⟩ = some (.int .i64 (v : Int)) := heap_cell HY7.out rfl
       have x1 : w17.cell? ⟨bg, 1, none⟩ = some (.slice Ag es.length cg) := heap_cell HY7.out rfl
       have z0 : w17.cell? ⟨b2 + 1, 0, none⟩ = some (.int .i64 0) := heap_cell HX7.out rfl
       have z1 : w17.cell? ⟨b2 + 1, 1, none⟩ = some (.slice none 0 0) := heap_cell HX7.out rfl
       have z2 : w17.cell? ⟨b2 + 1, 2, none⟩ = some (.slice none 0 0) := heap_cell HX7.out rfl
       have f0 : w17.frozen? ⟨b2 + 1, 0, none⟩ = false := heap_free HX7.out 0
       have f1 : w17.frozen? ⟨b2 + 1, 1, none⟩ = false := heap_free HX7.out 1
       have f2 : w17.frozen? ⟨b2 + 1, 2, none⟩ = false := heap_free HX7.out 2
       go_wp2_with fail
       have HXA : (w17.setCell ⟨b2 + 1, 0, none⟩ (.int .i64 (v : Int))).heap[b2 + 1]? = some (.cells #[.int .i64 (v : Int), .slice none 0 0, .slice none 0 0] 31 (0, 0)) := by
        have := heap_set (i := 0) HX7.out (.int .i64 (v : Int))
        simpa using this
       have HXB : ((w17.setCell ⟨b2 + 1, 0, none⟩ (.int .i64 (v : Int))).setCell ⟨b2 + 1, 1, none⟩ (.slice Ag es.length cg)).heap[b2 + 1]? = some (.cells #[.int .i64 (v : Int), .slice Ag es.length cg, .slice none 0 0] 31 (0, 0)) := by
        have := heap_set (i := 1) HXA (.slice Ag es.length cg)
        simpa using this
       have HXF : (((w17.setCell ⟨b2 + 1, 0, none⟩ (.int .i64 (v : Int))).setCell ⟨b2 + 1, 1, none⟩ (.slice Ag es.length cg)).setCell ⟨b2 + 1, 2, none⟩ (.slice Ar r2.length cr)).heap[b2 + 1]? = some (.cells #[.int .i64 (v : Int), .slice Ag es.length cg, .slice Ar r2.length cr] 31 (0, 0)) := by
        have := heap_set (i := 2) HXB (.slice Ar r2.length cr)
        simpa using this
       refine bodyPost_ret (results_ct rfl _ _ (b2 + 1) 31 #[.int .i64 (v : Int), .slice Ag es.length cg, .slice Ar r2.length cr] (0, 0) _ rfl HXF Try.underlying31 rfl (by kernel_rfl)) rfl ?_
       have hbl := HBB.out
       have hG := HG7.out
       have hne := Kd.R_ne hG HX7.out (by decide)
       have hG2 := Kd.R_reads' (Kd.R_step (w1 := ((w17.setCell ⟨b2 + 1, 0, none⟩ (.int .i64 (v : Int))).setCell ⟨b2 + 1, 1, none⟩ (.slice Ag es.length cg)).setCell ⟨b2 + 1, 2, none⟩ (.slice Ar r2.length cr)) (Kd.R_tight (by rfl) hG) (fun k hk _ => by
        have hkb : k ≠ b2 + 1 := fun e => hne (by rw [← e]; exact hk)
        rw [Below.heap_setCell _ _ _ _ (by simpa using hkb), Below.heap_setCell _ _ _ _ (by simpa using hkb), Below.heap_setCell _ _ _ _ (by simpa using hkb)]))
       have hS2 := Kd.S_set (Kd.S_set (Kd.S_set HR7.out HX7.out (by decide) 0 (.int .i64 (v : Int))) HXA (by decide) 1 (.slice Ag es.length cg)) HXB (by decide) 2 (.slice Ar r2.length cr)
       obtain ⟨_, hs1, hs2⟩ := Kd.S_reads' hS2
       refine ⟨Ag, Ar, cg, cr, .slice (some ⟨bn, 0, none⟩) v v, ?_, ?_, hs1, ?_, hs2, ?_⟩
       ·rw [← HPSN.out, ← HES.out, eds_length]; rfl
       ·rw [← HPSN.out, ← HES.out, eds_length]; exact hG2.2.1
       ·rw [← HPSN.out, ← HES.out, eds_length]; exact C_eds hG2.2.2
       ·exact ((HB7.out.setCell (p := ⟨b2 + 1, 0, none⟩) (by simp; omega) _).setCell (p := ⟨b2 + 1, 1, none⟩) (by simp; omega) _).setCell (p := ⟨b2 + 1, 2, none⟩) (by simp; omega) _
end Go.Proofs.Yteeihjpnhjnknaa.Mk
namespace Go.Proofs.Yteeihjpnhjnknaa.Rot
open Go.RowKit Go.Proofs.YteeihjpnhjnknaaW.PrintWords Go.Proofs.YteeihjpnhjnknaaW.PrintLast Go.Proofs.YteeihjpnhjnknaaW.PrintMore Go.Proofs.Yteeihjpnhjnknaa.GAll Go.Proofs.Yteeihjpnhjnknaa.Mem Go.Proofs.Yteeihjpnhjnknaa.Seen Go.Proofs.Yteeihjpnhjnknaa.Mk
set_option linter.unusedVariables false
set_option linter.unusedSimpArgs false
section
variable {n : Nat} {l l' : List Ed} {r r' : List (List Int)}
theorem look_map (hm : IsMap n l r) (hp : parts n l = 1) (h0 : 0 < l.length) : Ev (fun k => canon_look.f k (n : Int) l r) ((n : Int), nxOf l r, toOf l, 0, 0) := by
 obtain ⟨res, c1, _, c3, c4, _⟩ := both_check (n : Int) l r (small_map hm)
 have c0 := c4.2 ⟨n, rfl, hm.good, hm.rot⟩
 rw [c3 c0] at c1
 obtain ⟨o, o1, _⟩ := of_ev hm.good
 have hfit : (nxOf l r).length = 2 * l.length ∧ l.length ≤ 4194304 ∧ (0 : Int) = 0 := ⟨hm.len, hm.good.2.2.1, rfl⟩
 have hres : canon_look.told (n : Int) l (nxOf l r) (o, (parts n l : Int), 0) = some ((n : Int), nxOf l r, toOf l, 0, 0) := by
  unfold canon_look.told
  rw [if_pos hfit, if_pos ⟨by rw [hp]; rfl, by omega⟩]
  rfl
 unfold canon_look.f
 exact Ev.bind (next_ev hm c1) (Ev.congr (fun k => if_pos rfl) (Ev.bind o1 (Ev.congr (fun k => hres) (Ev.now _))))
noncomputable def mList (n : Nat) (l l' : List Ed) (r r' : List (List Int)) : List Int := Match.putL (seenOf n l r (bestOf n l r).1).ord (seenOf n l' r' (bestOf n l' r').1).ord n n
theorem best_lt (l : List Ed) (r : List (List Int)) (h0 : 0 < l.length) : (bestOf n l r).1 < 2 * l.length := by
 have hb := (bst_le (codes n l r) (2 * l.length - 1)).1
 unfold bestOf
 omega
theorem match_map (hm : IsMap n l r) (hp : parts n l = 1) (h0 : 0 < l.length) (hm' : IsMap n l' r') (hp' : parts n l' = 1) (h0' : 0 < l'.length) (e : codes n l r (bestOf n l r).1 = codes n l' r' (bestOf n l' r').1) : Ev (fun k => canon_Match.f k (n : Int) l r (n : Int) l' r') (mList n l l' r r', true, 0) := by
 have F1 := full (web hm hp) (root := (bestOf n l r).1) (by rw [hm.len]; exact best_lt l r h0)
 have F2 := full (web hm' hp') (root := (bestOf n l' r').1) (by rw [hm'.len]; exact best_lt l' r' h0')
 have hlen : (seenOf n l r (bestOf n l r).1).ord.length = n := F1.ord
 have hlen2 : (seenOf n l' r' (bestOf n l' r').1).ord.length = n := F2.ord
 have hn := hm.good.2.1
 have q1 := less_ev (a := codes n l r (bestOf n l r).1) (b := codes n l' r' (bestOf n l' r').1) (seen_cd hm _)
 have q2 := less_ev (a := codes n l' r' (bestOf n l' r').1) (b := codes n l r (bestOf n l r).1) (seen_cd hm' _)
 have out1 : canon_Match.out (n : Int) (seenOf n l r (bestOf n l r).1).ord (seenOf n l' r' (bestOf n l' r').1).ord = some (mList n l l' r r', true, 0) := by
  unfold canon_Match.out
  rw [hlen, hlen2, if_pos, Int.toNat_natCast]
  ·rfl
  rw [Bool.and_eq_true, decide_eq_true_eq, List.all_eq_true]
  refine ⟨⟨by omega, by omega, Nat.le_refl _, by omega⟩, fun x hx => ?_⟩
  obtain ⟨i, hi, rfl⟩ := List.getElem_of_mem hx
  have := F1.inO i (by rw [← hlen]; exact hi)
  have e3 : gi (seenOf n l r (bestOf n l r).1).ord i = (seenOf n l r (bestOf n l r).1).ord[i] := gi_get hi
  rw [← e3]
  exact decide_eq_true this
 unfold canon_Match.f
 refine Ev.bind (look_map hm hp h0) (Ev.bind (look_map hm' hp' h0') (Ev.congr (fun k => by rw [if_neg (by show ¬((0 : Int) = 1 ∨ (0 : Int) = 1); decide), if_pos (by rfl)]) ?_))
 unfold canon_Match.both
 refine Ev.bind (best_ev hm h0) ?_
 refine Ev.bind (best_ev hm' h0') ?_
 refine Ev.bind q1 ?_
 refine Ev.congr (fun k => if_neg (by rw [e, ltB_self]; decide)) ?_
 refine Ev.bind q2 ?_
 refine Ev.congr (fun k => if_neg (by rw [e, ltB_self]; decide)) ?_
 exact Ev.congr (fun k => out1) (Ev.now _)
theorem gsTo_arT {T : List Int} (hN : Nm n T) : gsTo n l r T [] n 0 = arT n l r T := by
 refine rows_gl (by rw [gsTo_length]; unfold arT; simp) fun u hu => ?_
 rw [gsTo_length] at hu
 obtain ⟨a, b⟩ := invT_at hN hu
 rw [gl_gsTo _ _ hu, if_pos a]
 unfold arT rowN
 rw [gl_range _ hu]
 refine list_gi (by simp) fun i hi => ?_
 rw [List.length_map, List.length_range] at hi
 rw [gi_range _ hi, gi_map hi]
 have hs : shf [] (gl r (invT n T u)) = 0 := by unfold shf; rw [if_neg (by simp)]
 rw [hs, Nat.add_zero, Nat.mod_eq_of_lt hi]
structure Named (k n : Nat) (l : List Ed) (r : List (List Int)) (order : List Int) (cd : List Int) (t : Int) (l2 : List Ed) (r2 : List (List Int)) (T : List Int) (q : List (List Int)) : Prop where
 hm : IsMap n l r
 hp : parts n l = 1
 h0 : 0 < l.length
 graph2 : l2 = eds (makeL (psTo l r (nmTo n order order.length) order n 0))
 ml : (makeL (psTo l r (nmTo n order order.length) order n 0)).length ≤ 4194304
 of1 : tangramref11_Of.f k (n : Int) l2 (gsTo n l r (nmTo n order order.length) order n 0) = some (r2, 0, 0)
 fault : tangramref21_Fault.f k (n : Int) l r = some 0
 copy : tangramlaw21_copied.f k (n : Int) l2 r2 = some ((n : Int), l2, r2)
 code2 : canon_Code.f k (n : Int) l2 r2 = some (cd, 0)
 turns : canon_Turns.f k (n : Int) l r = some (t, 0)
 turns2 : canon_Turns.f k (n : Int) l2 r2 = some (t, 0)
 ints : tangramref03_SameInts.f k cd cd = some true
 mat : canon_Match.f k (n : Int) l r (n : Int) l2 r2 = some (T, true, 0)
 nm : Nm n T
 of2 : tangramref11_Of.f k (n : Int) l2 (gsTo n l r T [] n 0) = some (q, 0, 0)
 same : tangramref11_Same.f k q r2 = some true
theorem named (hm : IsMap n l r) (hp : parts n l = 1) (h0 : 0 < l.length) (hf : Ev (fun k => tangramref21_Fault.f k (n : Int) l r) 0) (order : List Int) : ∃ (t : Int) (l2 : List Ed) (r2 : List (List Int)) (T : List Int) (q : List (List Int)) (K : Nat), ∀ k, K ≤ k → Named k n l r order (codes n l r (bestOf n l r).1) t l2 r2 T q := by
 have hw := web hm hp
 have hpos : 0 < n := by
  have h := hw.fr (x := 0) ⟨by omega, by rw [hm.len]; omega⟩
  omega
 have hN := nmTo_nm hpos order order.length
 have hps := psTo_prs (order := order) hm hp h0 hN
 have hR := nm_ren (order := order) hm hp h0 hN
 have hga := gsTo_all (order := order) hm hp h0 hN
 have harO := ren_arO hm hp hR hps
 obtain ⟨nm, hnm⟩ : ∃ nm, nm = nmTo n order order.length := ⟨_, rfl⟩
 rw [← hnm] at hN hps hR hga harO
 obtain ⟨φ, hφ⟩ : ∃ φ, φ = fun v : Int => gi nm v.toNat := ⟨_, rfl⟩
 obtain ⟨E, hE⟩ : ∃ E, E = nmE n r nm order := ⟨_, rfl⟩
 obtain ⟨ps, hpe⟩ : ∃ ps, ps = psTo l r nm order n 0 := ⟨_, rfl⟩
 rw [← hφ, ← hpe] at hps
 rw [← hφ, ← hE] at hR hga
 rw [← hφ, ← hE, ← hpe] at harO
 have hm' := ren_rot hm hp hR hps
 have hp' := ren_parts hm hp h0 hR hps
 have hml := make_len hm hp hR hps
 have hl : (eds (makeL ps)).length = l.length := by rw [eds_length]; exact hml
 have hbest := ren_best hm hp h0 hR hps
 have hism := ren_ism hm hp hR hps
 obtain ⟨l2, hl2⟩ : ∃ l2, l2 = eds (makeL ps) := ⟨_, rfl⟩
 rw [← hl2] at hm' hp' hl hbest harO hism
 obtain ⟨r2, hr2⟩ : ∃ r2, r2 = renR n l2 (nxOf l r) (toOf l) φ E := ⟨_, rfl⟩
 rw [← hr2] at hm' hbest harO hism
 have h0' : 0 < l2.length := by omega
 have hw' := web hm' hp'
 have hlen : (nxOf l r).length = (nxOf l2 r2).length := by rw [hm.len, hm'.len, hl]
 obtain ⟨g, hg, hgb⟩ := hism.onto hw hw' (simple hm') hlen (b := (bestOf n l r).1) (b' := (bestOf n l2 r2).1) (by rw [hm.len]; exact best_lt l r h0) (by rw [hm'.len]; exact best_lt l2 r2 h0') hbest.1.symm
 obtain ⟨T, hT⟩ : ∃ T, T = mList n l l2 r r2 := ⟨_, rfl⟩
 have hTx : ∀ x, In (nxOf l r) x → gi T (frm (toOf l) x).toNat = frm (toOf l2) (g x) := fun x hx => by
  rw [hT]
  exact hg.to_at hw hw' hlen (by rw [hm.len]; exact best_lt l r h0) (by rw [hm'.len]; exact best_lt l2 r2 h0') hgb hx
 have hTn := nmT hm hp h0 hm' hp' hg (by rw [hT]; unfold mList; rw [Match.putL_length]) hTx
 obtain ⟨K1, k1⟩ := of_around hm'
 rw [harO, ← hga] at k1
 obtain ⟨K2, k2⟩ := copied_ev (n : Int) l2 r2 (by have := hm'.good.2.2.1; omega) (small_map hm')
 obtain ⟨K3, k3⟩ := code_map hm' hp' h0'
 rw [hbest.1] at k3
 obtain ⟨K4, k4⟩ := turns_map hm hp h0
 obtain ⟨K5, k5⟩ := turns_map hm' hp' h0'
 rw [hbest.2] at k5
 obtain ⟨K6, k6⟩ := ints_same (seen_cd hm (bestOf n l r).1)
 obtain ⟨K7, k7⟩ := match_map hm hp h0 hm' hp' h0' hbest.1.symm
 rw [← hT] at k7
 obtain ⟨K8, k8⟩ := of_around (rT_map hm hp h0 hm' hp' hg hTx hTn)
 rw [rT_ar hm hp hm' hp' hg hTx hTn, ← gsTo_arT hTn] at k8
 obtain ⟨K9, k9⟩ := rT_same hm hp h0 hm' hp' hl hg hTx hTn
 obtain ⟨K0, k0⟩ := hf
 have hb2 := hm.good.2.2.1
 exact ⟨((bestOf n l r).2 : Int), l2, r2, T, rT n r T g, K0 + K1 + K2 + K3 + K4 + K5 + K6 + K7 + K8 + K9, fun k hk => ⟨hm, hp, h0, by rw [← hnm, ← hpe, hl2], by rw [← hnm, ← hpe, hml]; exact hb2, by rw [← hnm]; exact k1 _ (by omega), k0 _ (by omega), k2 _ (by omega), k3 _ (by omega), k4 _ (by omega), k5 _ (by omega), k6 _ (by omega), k7 _ (by omega), hTn, k8 _ (by omega), k9 _ (by omega)⟩⟩
end
end Go.Proofs.Yteeihjpnhjnknaa.Rot
