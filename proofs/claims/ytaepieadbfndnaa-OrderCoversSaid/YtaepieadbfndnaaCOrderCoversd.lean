/- DERIVED. Texts that OrderCovers needs. -/
import Derived.Test.YtaepieadbfndnaaCOrderCoversc
import Derived.Deep.QuietTactic
import Derived.BigQuiet
import Derived.StillTailTactics
import Derived.Test.YtaepieadbfndnaaProg
import Derived.Below
import Derived.Deep.Draws
import Derived.Deep.AppendLies
import Derived.Maps.AppendAt
import Derived.OwnWalk
import Derived.Laws.BytesArg
import Derived.Laws.MakeOwn
import Derived.Laws.OwnMore
import Derived.Deep.OwnRows
import Derived.Tactics
import Derived.Lib.ConvBytes
import Derived.Laws.Slices
import Derived.WalkKit
import Derived.KernelRfl
import Derived.RowKit3
import Derived.Deep.LoopGhost
import Derived.WideLaws
import Derived.Deep.DeepCutAuto
import Derived.Deep.CutBlock
import Derived.Deep.RegionHeld3
import Derived.Laws.Rows
import Derived.Lib.AppendStr
import Derived.ArgAppend
import Derived.Laws.IdiomCopy
import Derived.OrdersHeld
import Derived.Laws.BitsLemmas
import Derived.RowKit
import Derived.Test.YtaepieadbfndnaaCOrderCoversa
import Derived.Test.YtaepieadbfndnaaCOrderCoversb
set_option linter.unusedVariables false
set_option linter.unusedSimpArgs false
set_option maxRecDepth 100000
set_option maxHeartbeats 64000000
namespace Go.Proofs.Ytaepieadbfndnaa
open Go.RowKit Go.Proofs.YtaepieadbfndnaaW.PrintWords Go.Proofs.YtaepieadbfndnaaW.PrintLast Go.Proofs.YtaepieadbfndnaaW.PrintMore
attribute [local go_sem] max2_int min2_int max_two min_two max_three min_three max_four min_four   -- for this text's walks alone
namespace ValH
open Mem
abbrev P2 := Int × Int
def okP (n : Int) (p : P2) : Bool := decide (0 ≤ p.1 ∧ p.1 < p.2 ∧ p.2 < n)
def ltP (p q : P2) : Bool := decide (p.1 < q.1 ∨ (p.1 = q.1 ∧ p.2 < q.2))
def goodRest (n : Int) : List P2 → Bool
 | [] => true
 | [p] => okP n p
 | p :: q :: t => okP n p && (ltP p q && goodRest n (q :: t))
def goodB (n : Int) (es : List P2) : Bool := decide (0 ≤ n ∧ n ≤ 1048576 ∧ es.length ≤ 4194304) && goodRest n es
def OkAt (n : Int) (es : List P2) (i : Nat) : Prop := okP n (pe es i) = true ∧ (0 < i → ltP (pe es (i - 1)) (pe es i) = true)
theorem pe_succ (p : P2) (es : List P2) (i : Nat) : pe (p :: es) (i + 1) = pe es i := by unfold pe; simp
theorem pe_zero (p : P2) (es : List P2) : pe (p :: es) 0 = p := by unfold pe; simp
theorem goodRest_iff (n : Int) : ∀ es : List P2, goodRest n es = true ↔ ∀ i, i < es.length → OkAt n es i
 | [] => ⟨fun _ i h => absurd h (by simp), fun _ => rfl⟩
 | [p] => by
  constructor
  ·intro h i hi
   have : i = 0 := by simpa using hi
   subst this
   exact ⟨by rw [pe_zero]; exact h, fun h => absurd h (by omega)⟩
  ·intro h
   have := (h 0 (by simp)).1
   rw [pe_zero] at this
   exact this
 | p :: q :: t => by
  have ih := goodRest_iff n (q :: t)
  show (okP n p && (ltP p q && goodRest n (q :: t))) = true ↔ _
  rw [Bool.and_eq_true, Bool.and_eq_true, ih]
  constructor
  ·rintro ⟨h1, h2, h3⟩ i hi
   cases i with
   | zero => exact ⟨by rw [pe_zero]; exact h1, fun h => absurd h (by omega)⟩
   | succ i =>
    have := h3 i (by simpa using hi)
    refine ⟨by rw [pe_succ]; exact this.1, fun _ => ?_⟩
    cases i with
    | zero => rw [pe_succ, pe_zero]; exact h2
    | succ i =>
     have h4 := this.2 (by omega)
     rw [Nat.add_sub_cancel] at h4 ⊢
     rw [pe_succ, pe_succ]; exact h4
  ·intro h
   have h0 := h 0 (by simp)
   have h1 := h 1 (by simp)
   have h01 := h0.1
   rw [pe_zero] at h01
   refine ⟨h01, ?_, fun i hi => ?_⟩
   ·have := h1.2 (by omega)
    rw [Nat.sub_self, pe_zero, pe_succ p (q :: t) 0, pe_zero] at this
    exact this
   ·have h2 := h (i + 1) (by simpa using hi)
    rw [OkAt, pe_succ] at h2
    refine ⟨h2.1, fun h3 => ?_⟩
    have := h2.2 (by omega)
    rw [show i + 1 - 1 = (i - 1) + 1 by omega, pe_succ] at this
    exact this
theorem goodB_iff (n : Int) (es : List P2) : goodB n es = true ↔ 0 ≤ n ∧ n ≤ 1048576 ∧ es.length ≤ 4194304 ∧ ∀ i, i < es.length → OkAt n es i := by
 unfold goodB
 rw [Bool.and_eq_true, decide_eq_true_eq, goodRest_iff]
 constructor
 ·rintro ⟨⟨a, b, c⟩, d⟩; exact ⟨a, b, c, d⟩
 ·rintro ⟨a, b, c, d⟩; exact ⟨⟨a, b, c⟩, d⟩
theorem goodB_no {n : Int} {es : List P2} (h : ¬ (0 ≤ n ∧ n ≤ 1048576 ∧ es.length ≤ 4194304 ∧ ∀ i, i < es.length → OkAt n es i)) : goodB n es = false := by
 cases e : goodB n es with
 | false => rfl
 | true => exact absurd ((goodB_iff n es).1 e) h
theorem below_drewN {B : Nat} {w w' : World} (h : Below B w w') (n : Nat) : Below B w (w'.drewN n) := ⟨h.os, h.tape, h.output, h.size, h.block⟩
def cmpI (a b c d : Int) : Int := if a = c then b - d else a - c
theorem cmpI_lt {a b c d : Int} : cmpI a b c d < 0 ↔ ltP (a, b) (c, d) = true := by
 unfold cmpI ltP
 rw [decide_eq_true_eq]
 split <;> simp only <;> omega
theorem compare_calls (a b c d : Int) (w : World) (ha : 0 ≤ a ∧ a ≤ 1048576) (hb : 0 ≤ b ∧ b ≤ 1048576) (hc : 0 ≤ c ∧ c ≤ 1048576) (hd : 0 ≤ d ∧ d ≤ 1048576) :
  Calls Try.prog 64 #[.agg #[.int .i64 a, .int .i64 b], .agg #[.int .i64 c, .int .i64 d]] w fun e w' => e = .returned (.int .i64 (cmpI a b c d)) ∧ Below w.heap.size w w' := by
 by_cases h : a = c
 ·have t : (a != c) = false := bne_eq_false_iff_eq.2 h
  have HE : Aside0 (cmpI a b c d = b - d) := ⟨by unfold cmpI; rw [if_pos h]⟩
  have q : IntKind.i64.wrap (b - d) = b - d := IntWalk.i64_in _ (by omega)
  clear h
  go_enter Try.func64, Try.ntmps64
  go_wp2_with fail
  go_ret
  exact ⟨by rw [HE.out]; first | rfl | (congr 2), ((Below.refl _ _).alloc (Nat.le_refl _) _).alloc (by simp) _⟩
 ·have t : (a != c) = true := bne_iff_ne.2 h
  have HE : Aside0 (cmpI a b c d = a - c) := ⟨by unfold cmpI; rw [if_neg h]⟩
  have q : IntKind.i64.wrap (a - c) = a - c := IntWalk.i64_in _ (by omega)
  clear h
  go_enter Try.func64, Try.ntmps64
  go_wp2_with fail
  go_ret
  exact ⟨by rw [HE.out]; first | rfl | (congr 2), ((Below.refl _ _).alloc (Nat.le_refl _) _).alloc (by simp) _⟩
theorem simple_calls (n : Int) (A : Option Addr) (c : Nat) (es : List P2) (w : World) (he : Pairs w A es) (hc : es.length ≤ c) :
  Calls Try.prog 60 #[.agg #[.int .i64 n, .slice A es.length c]] w fun e w' => e = .returned (.bool (goodB n es)) ∧ Below w.heap.size w w' := by
 have HE := Aside0.mk he
 have HB := Aside0.mk ((Below.refl w.heap.size w).alloc (Nat.le_refl _) (.cells #[.int .i64 n, .slice A es.length c] 24 (0, 0)))
 have HX := Aside0.mk (heap_last w (.cells #[.int .i64 n, .slice A es.length c] 24 (0, 0)))
 clear he
 have x0 : (w.alloc (.cells #[.int .i64 n, .slice A es.length c] 24 (0, 0))).cell? ⟨w.heap.size, 0, none⟩ = some (.int .i64 n) := heap_cell HX.out rfl
 have x1 : (w.alloc (.cells #[.int .i64 n, .slice A es.length c] 24 (0, 0))).cell? ⟨w.heap.size, 1, none⟩ = some (.slice A es.length c) := heap_cell HX.out rfl
 by_cases h0 : 0 ≤ n ∧ n ≤ 1048576 ∧ es.length ≤ 4194304
 ·obtain ⟨h0, h1, h2⟩ := h0
  have t0 : decide (n < 0) = false := decide_eq_false (by omega)
  have t1 : decide (1048576 < n) = false := decide_eq_false (by omega)
  have t2 : decide (4194304 < (es.length : Int)) = false := decide_eq_false (by omega)
  go_enter Try.func60, Try.ntmps60
  go_wp2_with fail
  obtain ⟨W0, hW0⟩ : ∃ W0, W0 = w.alloc (.cells #[.int .i64 n, .slice A es.length c] 24 (0, 0)) := ⟨_, rfl⟩
  rw [← hW0] at HB HX ⊢
  obtain ⟨bg, hbg⟩ : ∃ bg, bg = w.heap.size := ⟨_, rfl⟩
  rw [← hbg] at HX ⊢
  have HBG := Aside0.mk hbg
  clear hbg hW0 x0 x1
  have HP0 : Aside0 (∀ j, j < 0 → OkAt n es j) := ⟨fun j h => absurd h (by omega)⟩
  go_loopw [22] (fun y wr => ∃ (i : Nat), y = .int .i64 (i : Int) ∧ i ≤ es.length ∧ Aside0 (∀ j, j < i → OkAt n es j) ∧ Aside0 (Below w.heap.size w wr) ∧ Aside0 (wr.heap[bg]? = some (.cells #[.int .i64 n, .slice A es.length c] 24 (0, 0)))) (fun y _ => es.length - (intOf y).toNat)
  case atStart => exact ⟨0, rfl, by omega, HP0, HB, HX⟩
  case round =>
   clear HP0 HB HX
   obtain ⟨i, rfl, hi, HP, HB, HX⟩ := hrel
   by_cases hlt : i < es.length
   ·obtain ⟨ad, eA, y1, y2⟩ := (HE.out.below HB.out) i hlt
    subst eA
    have HPR : Aside0 (0 < i → ∃ p, i = p + 1 ∧ OkAt n es p ∧ wr.cell? (ad.add (p * 2)) = some (.int .i64 (pe es p).1) ∧ wr.cell? ⟨(ad.add (p * 2)).block, (ad.add (p * 2)).off + 1, none⟩ = some (.int .i64 (pe es p).2)) := ⟨fun h => by
     obtain ⟨ad', e', z1, z2⟩ := (HE.out.below HB.out) (i - 1) (by omega)
     obtain rfl : ad = ad' := by simpa using e'
     exact ⟨i - 1, by omega, HP.out _ (by omega), z1, z2⟩⟩
    obtain ⟨u, hu⟩ : ∃ u, u = (pe es i).1 := ⟨_, rfl⟩
    obtain ⟨v, hv⟩ : ∃ v, v = (pe es i).2 := ⟨_, rfl⟩
    rw [← hu] at y1
    rw [← hv] at y2
    have HUV : Aside0 (pe es i = (u, v)) := ⟨by rw [hu, hv]⟩
    clear hu hv
    have HBAD : Aside0 (¬ OkAt n es i → goodB n es = false) := ⟨fun h => goodB_no (fun g => h (g.2.2.2 i hlt))⟩
    have HX2 := Aside0.mk (heap_old HX.out (.cells #[.int .i64 u, .int .i64 v] 41 (0, 0)))
    have HB2 := Aside0.mk (HB.out.alloc HB.out.size (.cells #[.int .i64 u, .int .i64 v] 41 (0, 0)))
    have HY2 := Aside0.mk (heap_last wr (.cells #[.int .i64 u, .int .i64 v] 41 (0, 0)))
    go_wp2_with fail
    clear y1 y2
    have x0 : (wr.alloc (.cells #[.int .i64 u, .int .i64 v] 41 (0, 0))).cell? ⟨bg, 0, none⟩ = some (.int .i64 n) := heap_cell HX2.out rfl
    have x1 : (wr.alloc (.cells #[.int .i64 u, .int .i64 v] 41 (0, 0))).cell? ⟨bg, 1, none⟩ = some (.slice (some ad) es.length c) := heap_cell HX2.out rfl
    have x2 : (wr.alloc (.cells #[.int .i64 u, .int .i64 v] 41 (0, 0))).cell? ⟨wr.heap.size, 0, none⟩ = some (.int .i64 u) := heap_cell HY2.out rfl
    have x3 : (wr.alloc (.cells #[.int .i64 u, .int .i64 v] 41 (0, 0))).cell? ⟨wr.heap.size, 1, none⟩ = some (.int .i64 v) := heap_cell HY2.out rfl
    have HBX : Aside0 (∀ b, b < wr.heap.size → (wr.alloc (.cells #[.int .i64 u, .int .i64 v] 41 (0, 0))).heap[b]? = wr.heap[b]?) := ⟨fun b hb => Below.heap_alloc _ _ _ hb⟩
    generalize wr.alloc (.cells #[.int .i64 u, .int .i64 v] 41 (0, 0)) = w2 at HX2 HB2 HY2 HBX x0 x1 x2 x3 ⊢
    obtain ⟨be, hbe⟩ : ∃ be, be = wr.heap.size := ⟨_, rfl⟩
    rw [← hbe] at x2 x3 HY2 HBX ⊢
    have HBE := Aside0.mk hbe
    clear hbe
    by_cases a0 : u < 0
    ·have HG := Aside0.mk (HBAD.out (fun h => by have := h.1; rw [HUV.out] at this; unfold okP at this; rw [decide_eq_true_eq] at this; simp only at this; omega))
     have t3 : decide (u < 0) = true := decide_eq_true a0
     go_quiet (fail)
     go_wp2_with fail
     go_ret
     exact ⟨by rw [HG.out]; rfl, below_drewN HB2.out _⟩
    have t3 : decide (u < 0) = false := decide_eq_false a0
    by_cases a1 : v ≤ u
    ·have HG := Aside0.mk (HBAD.out (fun h => by have := h.1; rw [HUV.out] at this; unfold okP at this; rw [decide_eq_true_eq] at this; simp only at this; omega))
     have t4 : decide (v ≤ u) = true := decide_eq_true a1
     go_quiet (fail)
     go_wp2_with fail
     go_ret
     exact ⟨by rw [HG.out]; rfl, below_drewN HB2.out _⟩
    have t4 : decide (v ≤ u) = false := decide_eq_false a1
    by_cases a2 : n ≤ v
    ·have HG := Aside0.mk (HBAD.out (fun h => by have := h.1; rw [HUV.out] at this; unfold okP at this; rw [decide_eq_true_eq] at this; simp only at this; omega))
     have t5 : decide (n ≤ v) = true := decide_eq_true a2
     go_quiet (fail)
     go_wp2_with fail
     go_ret
     exact ⟨by rw [HG.out]; rfl, below_drewN HB2.out _⟩
    have t5 : decide (n ≤ v) = false := decide_eq_false a2
    have HOK : Aside0 (okP n (pe es i) = true) := ⟨by rw [HUV.out]; unfold okP; rw [decide_eq_true_eq]; simp only; omega⟩
    by_cases a3 : 0 < i
    ·obtain ⟨p, hp, hop, z1, z2⟩ := HPR.out a3
     have t6 : decide (0 < (i : Int)) = true := decide_eq_true (by omega)
     obtain ⟨u', hu⟩ : ∃ u', u' = (pe es p).1 := ⟨_, rfl⟩
     obtain ⟨v', hv⟩ : ∃ v', v' = (pe es p).2 := ⟨_, rfl⟩
     rw [← hu] at z1
     rw [← hv] at z2
     have HUV' : Aside0 (pe es p = (u', v')) := ⟨by rw [hu, hv]⟩
     have hr : 0 ≤ u' ∧ u' < v' ∧ v' < n := by
      have := hop.1
      rw [HUV'.out] at this
      unfold okP at this
      simpa using this
     obtain ⟨hr0, hr1, hr2⟩ := hr
     have z1' : w2.cell? (ad.add (p * 2)) = some (.int .i64 u') := by
      rw [World.cell?, HBX.out _ (by rw [HBE.out]; exact cell_lt z1)]; exact z1
     have z2' : w2.cell? ⟨(ad.add (p * 2)).block, (ad.add (p * 2)).off + 1, none⟩ = some (.int .i64 v') := by
      rw [World.cell?, HBX.out _ (by rw [HBE.out]; exact cell_lt z2)]; exact z2
     have q1 : IntKind.i64.wrap ((i : Int) - 1) = (p : Int) := by rw [IntWalk.i64_in _ (by omega)]; omega
     have hpl : p < es.length := by omega
     have HP2 := Aside0.mk hp
     clear hu hv hop hp z1 z2
     go_still_tail 28, (by kernel_rfl)
     have HB3 : Aside0 (Below w.heap.size w w2.drew) := ⟨HB2.out.drew⟩
     have HX3 : Aside0 (w2.drew.heap[bg]? = some (.cells #[.int .i64 n, .slice (some ad) es.length c] 24 (0, 0))) := ⟨HX2.out⟩
     change wpList _ _ _ _ _ w2.drew
     generalize w2.drew = w3 at HB3 HX3 ⊢
     clear x0 x1 x2 x3 z1' z2' HB2 HX2 HY2 HBX
     by_cases hlt2 : ltP (u', v') (u, v) = true
     ·have hz := cmpI_lt.2 hlt2
      have t7 : decide (0 ≤ cmpI u' v' u v) = false := decide_eq_false (by omega)
      have HP3 : Aside0 (∀ j, j < i + 1 → OkAt n es j) := ⟨fun j hj => by
       rcases Nat.lt_succ_iff_lt_or_eq.1 hj with g | rfl
       ·exact HP.out j g
       ·exact ⟨HOK.out, fun h => by rw [show j - 1 = p by have := HP2.out; omega, HUV.out, HUV'.out]; exact hlt2⟩⟩
      clear hz hlt2
      go_wp2_with (go_at_call 64; refine (compare_calls u' v' u v _ (by omega) (by omega) (by omega) (by omega)).mono ?_; rintro e w4 ⟨rfl, hb⟩)
      have HX4 := Aside0.mk ((hb.block _ (lt_of HX3.out)).trans HX3.out)
      have HB4 := Aside0.mk (HB3.out.trans (hb.mono HB3.out.size))
      clear hb HX3 HB3
      go_wp2_with fail
      go_roundw
      case rel => exact ⟨i + 1, by go_num, by omega, HP3, HB4, HX4⟩
      case measure => simp [intOf]; omega
     ·have HG := Aside0.mk (HBAD.out (fun h => hlt2 (by
       have := h.2 a3
       rw [show i - 1 = p by have := HP2.out; omega, HUV.out, HUV'.out] at this
       exact this)))
      have hz : ¬ cmpI u' v' u v < 0 := fun h => hlt2 (cmpI_lt.1 h)
      have t7 : decide (0 ≤ cmpI u' v' u v) = true := decide_eq_true (by omega)
      clear hz hlt2
      go_wp2_with (go_at_call 64; refine (compare_calls u' v' u v _ (by omega) (by omega) (by omega) (by omega)).mono ?_; rintro e w4 ⟨rfl, hb⟩)
      have HB4 := Aside0.mk (HB3.out.trans (hb.mono HB3.out.size))
      clear hb HB3
      go_wp2_with fail
      go_ret
      exact ⟨by rw [HG.out]; rfl, HB4.out⟩
    ·have t6 : decide (0 < (i : Int)) = false := decide_eq_false (by omega)
     have HP2 : Aside0 (∀ j, j < i + 1 → OkAt n es j) := ⟨fun j hj => by
      rcases Nat.lt_succ_iff_lt_or_eq.1 hj with g | rfl
      ·exact HP.out j g
      ·exact ⟨HOK.out, fun h => absurd h a3⟩⟩
     go_quiet (fail)
     go_wp2_with fail
     go_roundw
     case rel => exact ⟨i + 1, by go_num, by omega, HP2, ⟨below_drewN HB2.out _⟩, ⟨HX2.out⟩⟩
     case measure => simp [intOf]; omega
   ·obtain rfl : i = es.length := by omega
    have HG := Aside0.mk ((goodB_iff n es).2 ⟨h0, h1, h2, HP.out⟩)
    go_wp2_with fail
    go_ret
    exact ⟨by rw [HG.out]; rfl, HB.out⟩
 ·have HG := Aside0.mk (goodB_no (n := n) (es := es) (fun h => h0 ⟨h.1, h.2.1, h.2.2.1⟩))
  by_cases a0 : n < 0
  ·have t0 : decide (n < 0) = true := decide_eq_true a0
   clear h0
   go_enter Try.func60, Try.ntmps60
   go_wp2_with fail
   go_ret
   exact ⟨by rw [HG.out]; rfl, HB.out⟩
  ·have t0 : decide (n < 0) = false := decide_eq_false a0
   by_cases a1 : 1048576 < n
   ·have t1 : decide (1048576 < n) = true := decide_eq_true a1
    clear h0
    go_enter Try.func60, Try.ntmps60
    go_wp2_with fail
    go_ret
    exact ⟨by rw [HG.out]; rfl, HB.out⟩
   ·have t1 : decide (1048576 < n) = false := decide_eq_false a1
    have t2 : decide (4194304 < (es.length : Int)) = true := decide_eq_true (by omega)
    clear h0
    go_enter Try.func60, Try.ntmps60
    go_wp2_with fail
    go_ret
    exact ⟨by rw [HG.out]; rfl, HB.out⟩
end ValH
namespace GAll
def errW : Option Int → Value
 | none => .nilIface
 | some c => .iface 0 (.int .i64 c)
theorem errW_none : errW none = .nilIface := rfl
theorem errW_some (c : Int) : errW (some c) = .iface 0 (.int .i64 c) := rfl
theorem info3 : (Try.prog.info? 3).map (fun i => (i.zero, i.size, i.bytes)) = some (some (.int .i64 0), 1, 8) := by kernel_rfl
theorem info4 : (Try.prog.info? 4).map (fun i => (i.zero, i.size, i.bytes)) = some (some (.bool false), 1, 1) := by kernel_rfl
theorem info27 : (Try.prog.info? 27).map (fun i => (i.zero, i.size, i.bytes)) = some (some (.slice none 0 0), 1, 24) := by kernel_rfl
theorem info41 : (Try.prog.info? 41).map (fun i => (i.zero, i.size, i.bytes)) = some (some (.agg #[(.int .i64 0), (.int .i64 0)]), 2, 16) := by kernel_rfl
structure S41 where
 f0 : Int
 f1 : Int
def z41 : S41 := ⟨(0 : Int), (0 : Int)⟩
def k41 : Kd S41 := Kd.iso (Kd.pair (Kd.int .i64) (Kd.int .i64)) (fun x : S41 => (x.f0, x.f1))
theorem k41_open {w : World} {x : S41} {cs : List Value} (h : k41.K w x cs) : cs = [.int .i64 x.f0, .int .i64 x.f1] := by
 obtain ⟨_, _, rfl, rfl, rfl⟩ := h
 exact rfl
theorem k41_mkM (w : World) (base : Nat) (ok : Nat → Prop) (x : S41)  : k41.M w base ok x [.int .i64 x.f0, .int .i64 x.f1] := ⟨[.int .i64 x.f0], [.int .i64 x.f1], rfl, rfl, rfl⟩
def rd_T41 (xs : List S41) (i : Int) : S41 := xs.getD i.toNat z41
theorem at_T41 {w : World} {A : Option Addr} {n : Nat} {xs : List S41} (h : Kd.C k41 w A n xs) (i : Int) (h0 : 0 ≤ i) (h1 : i < n) : ∃ ad , A = some ad ∧ w.cell? (ad.add (i.toNat * 2)) = some (.int .i64 (rd_T41 xs i).f0) ∧ w.cell? ⟨(ad.add (i.toNat * 2)).block, (ad.add (i.toNat * 2)).off + 1, none⟩ = some (.int .i64 (rd_T41 xs i).f1) := by
 obtain ⟨ad, c, e, _, hK, hc0⟩ := Kd.C_get h z41 i h0 h1
 have hc : ∀ j u, c[j]? = some u → w.cell? (ad.add (i.toNat * 2 + j)) = some u := hc0
 obtain rfl := k41_open hK
 exact ⟨ad, e, hc 0 _ rfl, by rw [← add_field _ _ 1 (by omega)]; exact hc 1 _ rfl⟩
def rd_L2 (xs : List (List Int)) (i : Int) : (List Int) := xs.getD i.toNat ([] : List Int)
theorem at_L2 {w : World} {A : Option Addr} {n : Nat} {xs : List (List Int)} (h : Kd.C (Kd.slice 3 (Kd.int .i64)) w A n xs) (i : Int) (h0 : 0 ≤ i) (h1 : i < n) : ∃ ad A0 c0, A = some ad ∧ w.cell? (ad.add i.toNat) = some (.slice A0 (rd_L2 xs i).length c0) ∧ (rd_L2 xs i).length ≤ c0 ∧ (Kd.int .i64).C w A0 (rd_L2 xs i).length (rd_L2 xs i) := by
 obtain ⟨ad, c, e, _, hK, hc0⟩ := Kd.C_get h ([] : List Int) i h0 h1
 have hc : ∀ j u, c[j]? = some u → w.cell? (ad.add (i.toNat * 1 + j)) = some u := hc0
 obtain ⟨A0, c0, rfl, l0, g0⟩ := hK
 exact ⟨ad, A0, c0, e, by have hq := hc 0 _ rfl; rwa [Nat.mul_one, Nat.add_zero] at hq, l0, g0⟩
def rd_L3 (xs : List (List S41)) (i : Int) : (List S41) := xs.getD i.toNat ([] : List S41)
structure S24 where
 f0 : Int
 f1 : (List S41)
def z24 : S24 := ⟨(0 : Int), ([] : List S41)⟩
def k24 : Kd S24 := Kd.iso (Kd.pair (Kd.int .i64) (Kd.slice 41 k41)) (fun x : S24 => (x.f0, x.f1))
def rd_T24 (xs : List S24) (i : Int) : S24 := xs.getD i.toNat z24
def rd_L6 (xs : List (List (List Int))) (i : Int) : (List (List Int)) := xs.getD i.toNat ([] : List (List Int))
end GAll
namespace GAll
theorem simple_Valid.pairs {w : World} {A : Option Addr} {l : List S41} (h : Kd.C k41 w A l.length l) : Mem.Pairs w A (l.map fun x => (x.f0, x.f1)) := by
 intro i hi
 rw [List.length_map] at hi
 obtain ⟨ad, e, h1, h2⟩ := at_T41 h (i : Int) (by omega) (by omega)
 have e2 : Mem.pe (l.map fun x => (x.f0, x.f1)) i = ((rd_T41 l (i : Int)).f0, (rd_T41 l (i : Int)).f1) := by
  unfold Mem.pe rd_T41
  simp [List.getD_eq_getElem?_getD, hi]
 rw [e2]
 exact ⟨ad, e, h1, h2⟩
def simple_Valid.f (k : Nat) (a0_0 : Int) (l0_1 : List S41) : Option Bool := some (ValH.goodB a0_0 (l0_1.map fun x => (x.f0, x.f1)))
theorem simple_Valid.mono : ∀ a0 a1 k, LeO (simple_Valid.f k a0 a1) (simple_Valid.f (k + 1) a0 a1) := fun _ _ _ => LeO.refl _
theorem simple_Valid.calls (k : Nat) (a0_0 : Int) (A0_1 : Option Addr) (c0_1 : Nat) (l0_1 : List (S41)) (r : Bool) (w : World) (hr0_1 : Kd.C k41 w A0_1 l0_1.length l0_1) (hc0_1 : l0_1.length ≤ c0_1) (h : simple_Valid.f k a0_0 l0_1 = some r) :
  Calls Try.prog 60 #[.agg #[.int .i64 a0_0, .slice A0_1 l0_1.length c0_1]] w fun e w' => e = .returned (.bool r) ∧ Below w.heap.size w w' := by
 obtain rfl : ValH.goodB a0_0 (l0_1.map fun x => (x.f0, x.f1)) = r := by simpa [simple_Valid.f] using h
 have key := ValH.simple_calls a0_0 A0_1 c0_1 (l0_1.map fun x => (x.f0, x.f1)) w (simple_Valid.pairs hr0_1) (by rw [List.length_map]; exact hc0_1)
 rw [List.length_map] at key
 exact key
end GAll
namespace PureV
open GAll
abbrev E := S41
abbrev rdE := rd_T41
def okE (n : Int) (x : E) : Prop := 0 ≤ x.f0 ∧ x.f0 < x.f1 ∧ x.f1 < n
def lt (x y : E) : Prop := x.f0 < y.f0 ∨ (x.f0 = y.f0 ∧ x.f1 < y.f1)
def Ok (n : Int) (l : List E) (i : Nat) : Prop := okE n (rdE l (i : Nat)) ∧ (0 < i → lt (rdE l ((i - 1 : Nat) : Int)) (rdE l (i : Nat)))
def Good (n : Int) (l : List E) : Prop := 0 ≤ n ∧ n ≤ 1048576 ∧ l.length ≤ 4194304 ∧ ∀ i, i < l.length → Ok n l i
instance (n x) : Decidable (okE n x) := by unfold okE; infer_instance
instance (x y) : Decidable (lt x y) := by unfold lt; infer_instance
instance (n l i) : Decidable (Ok n l i) := by unfold Ok; infer_instance
theorem wadd {i : Nat} (h : i ≤ 9000000) : wrap64 ((i : Int) + 1) = ((i + 1 : Nat) : Int) := by rw [IntWalk.wrap64_in _ (by omega)]; omega
theorem pe_rd {l : List E} {i : Nat} (h : i < l.length) : Mem.pe (l.map fun x => (x.f0, x.f1)) i = ((rdE l (i : Nat)).f0, (rdE l (i : Nat)).f1) := by
 unfold Mem.pe rdE rd_T41
 simp [List.getD_eq_getElem?_getD, h]
theorem ok_at {n : Int} {l : List E} {i : Nat} (h : i < l.length) : ValH.OkAt n (l.map fun x => (x.f0, x.f1)) i ↔ Ok n l i := by
 unfold ValH.OkAt Ok okE lt ValH.okP ValH.ltP
 rw [pe_rd h, pe_rd (show i - 1 < l.length by omega), decide_eq_true_eq, decide_eq_true_eq]
theorem good_iff (n : Int) (l : List E) : ValH.goodB n (l.map fun x => (x.f0, x.f1)) = true ↔ Good n l := by
 rw [ValH.goodB_iff, List.length_map]
 unfold Good
 constructor
 ·rintro ⟨a, b, c, d⟩; exact ⟨a, b, c, fun i hi => (ok_at hi).1 (d i hi)⟩
 ·rintro ⟨a, b, c, d⟩; exact ⟨a, b, c, fun i hi => (ok_at hi).2 (d i hi)⟩
theorem valid (n : Int) (l : List E) : ∃ b : Bool, Ev (fun k => simple_Valid.f k n l) b ∧ Ev (fun k => simple_Valid.f k n l) b ∧ (b = true ↔ Good n l) := ⟨_, Ev.now _, Ev.now _, good_iff n l⟩
end PureV
end Go.Proofs.Ytaepieadbfndnaa
namespace Go.Proofs.YtaepieadbfndnaaW.PrintLast
open Go.RowKit Go.Proofs.YtaepieadbfndnaaW.PrintWords
theorem bl9 {w W W1 : World} (h : Aside0 (Below w.heap.size w W)) (q : Below w.heap.size w W → Below w.heap.size w W1 := by first | exact id | (intro h; repeat (first | (with_reducible first | exact h | apply below_alloc | apply pw_below_drewN | apply below_drew1 | refine below_set ?_ (Aside0.out (by assumption))) | exact h))) : Below w.heap.size w W1 := q h.out
theorem bs9 {w W W1 w2 : World} (h : Aside0 (Below w.heap.size w W)) (k : Below W1.heap.size W1 w2) (q : Below w.heap.size w W → Below w.heap.size w W1 := by first | exact id | (intro h; repeat (first | (with_reducible first | exact h | apply below_alloc | apply pw_below_drewN | apply below_drew1 | refine below_set ?_ (Aside0.out (by assumption))) | exact h))) : Aside0 (Below w.heap.size w w2) := ⟨below_step (q h.out) k⟩
theorem sz9 {w W W1 : World} (h : Aside0 (Below w.heap.size w W)) (q : Below w.heap.size w W → Below w.heap.size w W1 := by first | exact id | (intro h; repeat (first | (with_reducible first | exact h | apply below_alloc | apply pw_below_drewN | apply below_drew1 | refine below_set ?_ (Aside0.out (by assumption))) | exact h))) : w.heap.size ≤ W1.heap.size := below_size (q h.out)
theorem gw9 {w W W1 : World} {g : Nat} (h : Aside0 (Below w.heap.size w W)) (e : g = W1.heap.size) (q : Below w.heap.size w W → Below w.heap.size w W1 := by first | exact id | (intro h; repeat (first | (with_reducible first | exact h | apply below_alloc | apply pw_below_drewN | apply below_drew1 | refine below_set ?_ (Aside0.out (by assumption))) | exact h))) : Aside0 (w.heap.size ≤ g) := ⟨by rw [e]; exact below_size (q h.out)⟩
theorem bb9 {W W1 w2 : World} {g : Nat} {o : Obj} (h : Aside0 (W.heap[g]? = some o)) (k : Below W1.heap.size W1 w2) (q : W.heap[g]? = some o → W1.heap[g]? = some o := by first | exact id | (intro h; (with_reducible repeat (first | refine blk_drewN ?_ _ | refine blk_drew ?_ | refine blk_alloc ?_ _)); exact h)) : Aside0 (w2.heap[g]? = some o) := ⟨blk_below (q h.out) k⟩
theorem nl9 {W W1 : World} {g g' : Nat} {o : Obj} (h : Aside0 (W.heap[g]? = some o)) (e : g' = W1.heap.size) (q : W.heap[g]? = some o → W1.heap[g]? = some o := by first | exact id | (intro h; (with_reducible repeat (first | refine blk_drewN ?_ _ | refine blk_drew ?_ | refine blk_alloc ?_ _)); exact h)) : Aside0 (g ≠ g') := ⟨by rw [e]; exact Nat.ne_of_lt (blk_lt (q h.out))⟩
theorem ng9 {W W1 : World} {g g' : Nat} {o : Obj} (h : Aside0 (W.heap[g]? = some o)) (e : g' = W1.heap.size) (q : W.heap[g]? = some o → W1.heap[g]? = some o := by first | exact id | (intro h; (with_reducible repeat (first | refine blk_drewN ?_ _ | refine blk_drew ?_ | refine blk_alloc ?_ _)); exact h)) : Aside0 (g' ≠ g) := ⟨by rw [e]; exact Nat.ne_of_gt (blk_lt (q h.out))⟩
theorem od9 {p : Prop} [Decidable p] (h : decide p = true := by first | (with_reducible assumption) | assumption) : p := of_decide_eq_true h
theorem an9 {p : Prop} (h : p := by first | rfl | (simp; done) | (simp [*]; done)) : p := h
theorem er9 {p : Prop} (h : p := by first | rfl | (simp [errW_none, errW_some] <;> rfl) | (simp [*, errW_none, errW_some] <;> rfl)) : p := h
theorem bk9 {W W1 : World} {g : Nat} {o : Obj} (h : Aside0 (W.heap[g]? = some o)) (q : W.heap[g]? = some o → W1.heap[g]? = some o := by first | exact id | (intro h; (with_reducible repeat (first | refine blk_drewN ?_ _ | refine blk_drew ?_ | refine blk_alloc ?_ _)); exact h)) : Aside0 (W1.heap[g]? = some o) := ⟨q h.out⟩
theorem cz9 {w : World} {g : Nat} {t : TypeId} {cs : List Value} (h : Aside0 (w.heap[g]? = some (.cells cs.toArray t (0, 0)))) (i : Nat) {v : Value} (hv : cs[i]? = some v := by rfl) : w.cell? ⟨g, i, none⟩ = some v := (blk_cell h.out i).trans (by rw [← hv]; simp)
theorem cb9 {α : Type} {d : Kd α} {xs : List α} {A : Option Addr} {n : Nat} {w W W1 : World} (h : Aside0 (d.C w A n xs)) (hb : Aside0 (Below w.heap.size w W)) (q : d.C W A n xs → d.C W1 A n xs := by first | exact id | (intro h; repeat (first | exact h | (with_reducible refine Kd.C_alloc ?_ _) | (with_reducible refine Kd.C_drewN ?_ _) | (with_reducible refine Kd.C_drew ?_)))) : d.C W1 A n xs := q (Kd.C_below h.out hb.out)
theorem rb9 {α : Type} {d : Kd α} {e : Nat} {W W1 w1 : World} {base : Nat} {ok : Nat → Prop} {v : Value} {xs : List α} (h : Aside0 (d.R e W base ok v xs)) (hb : Below W1.heap.size W1 w1) (q : d.R e W base ok v xs → d.R e W1 base ok v xs := by first | exact id | (intro h; (with_reducible repeat (first | apply Kd.R_alloc | apply Kd.R_drewN | apply Kd.R_drew)); exact h)) : Aside0 (d.R e w1 base ok v xs) := ⟨Kd.R_below (q h.out) hb⟩
theorem nm7 {P : Program} {ops : Array Oper} {Q : Exit → Act → World → Prop} {md : Region.Mode} {S : World → Prop} {ds : List Nat} {fuel : Nat} {l : Array Bool} {a a' : Act} {w : World} (h : wpAnyLast P md ops Q S ds fuel l a' w) (ha : a = a' := by simp only [putAll, Act.put, List.setIfInBounds_toArray, List.set_cons_zero, List.set_cons_succ]) : wpAnyLast P md ops Q S ds fuel l a w := norm_ ha h
theorem ro9 {α : Type} {d : Kd α} {e : Nat} {W W1 : World} {base : Nat} {ok : Nat → Prop} {v : Value} {xs : List α} (h : Aside0 (d.R e W base ok v xs)) (q : d.R e W base ok v xs → d.R e W1 base ok v xs := by first | exact id | (intro h; (with_reducible repeat (first | apply Kd.R_alloc | apply Kd.R_drewN | apply Kd.R_drew)); exact h)) : d.R e W1 base ok v xs := q h.out
theorem hc2 {w : World} {g : Nat} {t : TypeId} {v0 v1 : Value} (h : Aside0 (w.heap[g]? = some (.cells #[v0, v1] t (0, 0)))) : w.cell? ⟨g, 0, none⟩ = some v0 ∧ w.cell? ⟨g, 1, none⟩ = some v1 := ⟨(blk_cell h.out 0).trans rfl, (blk_cell h.out 1).trans rfl⟩
theorem hc3 {w : World} {g : Nat} {t : TypeId} {v0 v1 v2 : Value} (h : Aside0 (w.heap[g]? = some (.cells #[v0, v1, v2] t (0, 0)))) : w.cell? ⟨g, 0, none⟩ = some v0 ∧ w.cell? ⟨g, 1, none⟩ = some v1 ∧ w.cell? ⟨g, 2, none⟩ = some v2 := ⟨(blk_cell h.out 0).trans rfl, (blk_cell h.out 1).trans rfl, (blk_cell h.out 2).trans rfl⟩
theorem hc5 {w : World} {g : Nat} {t : TypeId} {v0 v1 v2 v3 v4 : Value} (h : Aside0 (w.heap[g]? = some (.cells #[v0, v1, v2, v3, v4] t (0, 0)))) : w.cell? ⟨g, 0, none⟩ = some v0 ∧ w.cell? ⟨g, 1, none⟩ = some v1 ∧ w.cell? ⟨g, 2, none⟩ = some v2 ∧ w.cell? ⟨g, 3, none⟩ = some v3 ∧ w.cell? ⟨g, 4, none⟩ = some v4 := ⟨(blk_cell h.out 0).trans rfl, (blk_cell h.out 1).trans rfl, (blk_cell h.out 2).trans rfl, (blk_cell h.out 3).trans rfl, (blk_cell h.out 4).trans rfl⟩
theorem nm8 {P : Program} {ops : Array Oper} {Q : Exit → Act → World → Prop} {md : Region.Mode} {S : World → Prop} {ds : List Nat} (N : Nat) {fuel : Nat} {l : Array Bool} {N' : Option Tmp} {a a' : Act} {v : Value} {w : World} (h : wpAnyLast P md ops Q S ds fuel l a' w) (hN : N' = some N := by rfl) (ha : a.put (some N) v = a' := by simp only [Act.put, List.setIfInBounds_toArray, List.set_cons_zero, List.set_cons_succ, i64_w, i32_w]; rfl) : wpAnyLast P md ops Q S ds fuel l (a.put N' v) w := norm_ (by rw [hN]; exact ha) h
section
variable {P : Program} {ops : Array Oper} {Q : Exit → Act → World → Prop}
theorem bx9 {o : Oper} {rest : List Oper} {a : Act} {W : World} {N : Tmp} {cs : Array Value} {t : TypeId} (h : ∀ g, g = W.heap.size → ∀ w1, w1.heap[g]? = some (.cells cs t (0, 0)) → Below W.heap.size W w1 → wpList P ops Q rest (a.put o.dst (.pointer (some ⟨g, 0, none⟩))) w1) (hgd : o.guard = none := by rfl) (hd : o.dst = some N := by rfl)
  (hrun : (execOp a.eval o).run P W = .ok (.value (.pointer (some ⟨W.heap.size, 0, none⟩))) (W.alloc (.cells cs t (0, 0))) := by first | (go_simp; done) | (go_simp; rfl)) : wpList P ops Q (o :: rest) a W := box_event hgd hd hrun h
theorem gs9 {oi : Oper} {N : Option Tmp} {a : Act} {w : World} {K : Act → World → Prop} {f : FuncId} {fn : Func} {as9 : Array Operand} {ts : Array TypeId} (hf : P.funcs[f]? = some fn) (args : Array Value)
  (h : Calls P f args w fun e w' => ∃ v, e = .returned v ∧ K (a.put N v) w') (hname : (fn.name == "runtime.NumGoroutine") = false := by kernel_rfl) (hb : fn.body.isSome = true := by rfl)
  (hw : Region.wanted oi (yielded ops a.tmps) = true := by rfl) (hN : oi.dst = N := by rfl) (hop : oi.op = .call { callee := .value (.func f), args := as9, argTypes := ts } := by rfl) (hargs : as9.map a.eval = args := by (try simp only [List.map_toArray, List.map_cons, List.map_nil]); first | done | rfl | (simp only [List.length_drop, List.length_take]; rfl)) : if Region.wanted oi (yielded ops a.tmps) = true then Oper.wp P oi a w K Q else K (a.put N undef) w := goes_ hf hname hb args hw hN hop hargs h
theorem gL9 {rest : List Oper} {oi : Oper} {a : Act} {w : World} (N : Option Tmp) {f : FuncId} {fn : Func} {as9 : Array Operand} {ts : Array TypeId} (hf : P.funcs[f]? = some fn) (args : Array Value)
  (h : Calls P f args w fun e w' => ∃ v, e = .returned v ∧ wpList P ops Q rest (a.put N v) w') (hd : oi.dst = N := by rfl) (hg : oi.guard = none := by rfl) (hname : (fn.name == "runtime.NumGoroutine") = false := by kernel_rfl) (hb : fn.body.isSome = true := by rfl)
  (hop : oi.op = .call { callee := .value (.func f), args := as9, argTypes := ts } := by rfl) (hargs : as9.map a.eval = args := by (try simp only [List.map_toArray, List.map_cons, List.map_nil]); first | done | rfl | (simp only [List.length_drop, List.length_take]; rfl)) : wpList P ops Q (oi :: rest) a w := goesL_ N hd hg hf hname hb args hop hargs h
end
end Go.Proofs.YtaepieadbfndnaaW.PrintLast
namespace Go.Proofs.Ytaepieadbfndnaa
open Go.RowKit Go.Proofs.YtaepieadbfndnaaW.PrintWords Go.Proofs.YtaepieadbfndnaaW.PrintLast Go.Proofs.YtaepieadbfndnaaW.PrintMore
attribute [local go_sem] max2_int min2_int max_two min_two max_three min_three max_four min_four   -- for this text's walks alone
namespace GAll
def simple_Degrees.l0 : Nat → List Int → List (S41) → Int → Int → Option (List Int × Int)
 | 0, _, _, _, _ => none
 | k + 1, x4, x14, x15, x16 => if x16 < x15 then (if 0 ≤ x16 then (if x16 < (x14.length : Int) then (if 0 ≤ ((rd_T41 x14 x16).f0) then (if ((rd_T41 x14 x16).f0) < (x4.length : Int) then ((some (x4.set (((rd_T41 x14 x16).f0) : Int).toNat (wrap64 ((rd x4 ((rd_T41 x14 x16).f0)) + 1)) : List Int)).bind fun y127 => (if 0 ≤ ((rd_T41 x14 x16).f1) then (if ((rd_T41 x14 x16).f1) < (x4.length : Int) then (simple_Degrees.l0 k (y127.set (((rd_T41 x14 x16).f1) : Int).toNat (wrap64 ((rd y127 ((rd_T41 x14 x16).f1)) + 1))) x14 x15 (wrap64 (x16 + 1))) else (none)) else (none))) else (none)) else (none)) else (none)) else (none)) else (some (x4, 0))
def simple_Degrees.f (k : Nat) (a0_0 : Int) (l0_1 : List (S41)) : Option (List Int × Int) := (simple_Valid.f k a0_0 l0_1).bind fun t120 => (if t120 = true then (if 0 ≤ a0_0 then (if (a0_0 : Int).toNat ≤ 35184372088832 then (simple_Degrees.l0 k (List.replicate (a0_0 : Int).toNat 0) l0_1 (l0_1.length : Int) 0) else (none)) else (none)) else (some (([] : List Int), 1)))
theorem simple_Degrees.mono_l : ∀ k, (∀ y0 y1 y2 y3, LeO (simple_Degrees.l0 k y0 y1 y2 y3) (simple_Degrees.l0 (k + 1) y0 y1 y2 y3))
 | 0 => fun _ _ _ _ r h => by simp [simple_Degrees.l0] at h
 | k + 1 => by
  have ih0 := simple_Degrees.mono_l k
  ·intro y0 y1 y2 y3
   unfold simple_Degrees.l0
   repeat' first
   | (with_reducible exact ih0 _ _ _ _)
   | (with_reducible exact simple_Valid.mono _ _ _)
   | (with_reducible exact LeO.refl _)
   | (with_reducible exact LeO.none _)
   | (with_reducible refine LeO.ite ?_ ?_)
   | (with_reducible refine LeO.bind ?_ (fun _ => ?_))
theorem simple_Degrees.mono : ∀ a0 a1 k, LeO (simple_Degrees.f k a0 a1) (simple_Degrees.f (k + 1) a0 a1) := by
 intro a0 a1 k
 have ih0 := simple_Degrees.mono_l k
 unfold simple_Degrees.f
 repeat' first
   | (with_reducible exact ih0 _ _ _ _)
   | (with_reducible exact simple_Valid.mono _ _ _)
   | (with_reducible exact LeO.refl _)
   | (with_reducible exact LeO.none _)
   | (with_reducible refine LeO.ite ?_ ?_)
   | (with_reducible refine LeO.bind ?_ (fun _ => ?_))
theorem simple_Degrees.calls (k : Nat) (a0_0 : Int) (A0_1 : Option Addr) (c0_1 : Nat) (l0_1 : List (S41)) (r1 : List Int) (r2 : Int) (w : World) (hr0_1 : Kd.C k41 w A0_1 l0_1.length l0_1) (hc0_1 : l0_1.length ≤ c0_1) (h : simple_Degrees.f k a0_0 l0_1 = some (r1, r2)) :
  Calls Try.prog 61 #[.agg #[.int .i64 a0_0, .slice A0_1 l0_1.length c0_1]] w fun e w' => ∃ v0_ : Value, e = .returned (.tuple #[v0_, .int .i64 r2]) ∧ Kd.R (Kd.int .i64) 3 w' w.heap.size (fun _ => True) v0_ r1 ∧ Below w.heap.size w w' := by
 have hu24 := Try.underlying24
 have hu41 := Try.underlying41
 have HR0_1 := Aside0.mk hr0_1
 have HC0_1 := Aside0.mk hc0_1
 clear hr0_1 hc0_1
 have HB := Aside0.mk (Below.refl w.heap.size w)
 have H : ((simple_Valid.f k a0_0 l0_1).bind fun t120 => (if t120 = true then (if 0 ≤ a0_0 then (if (a0_0 : Int).toNat ≤ 35184372088832 then (simple_Degrees.l0 k (List.replicate (a0_0 : Int).toNat 0) l0_1 (l0_1.length : Int) 0) else (none)) else (none)) else (some (([] : List Int), 1)))) = some (r1, r2) := h
 clear h
 replace H := Option.bind_eq_some_iff.mp H
 obtain ⟨t120, A20, H⟩ := H
 have A2 := Aside0.mk A20
 clear A20
 by_cases c3 : t120 = true
 ·subst c3
  rw [if_pos rfl] at H
  by_cases c4 : 0 ≤ a0_0
  ·rw [if_pos c4] at H
   have c4b0 := eq_true c4
   have c4b1 : decide (0 ≤ a0_0) = true := decide_eq_true c4
   clear c4
   by_cases c5 : (a0_0 : Int).toNat ≤ 35184372088832
   ·rw [if_pos c5] at H
    have c5b0 := eq_true c5
    have c5b1 : decide ((a0_0 : Int).toNat ≤ 35184372088832) = true := decide_eq_true c5
    clear c5
    obtain ⟨y121, hy121⟩ : ∃ y_ : List Int, y_ = (List.replicate (a0_0 : Int).toNat 0) := ⟨_, rfl⟩
    replace H : (simple_Degrees.l0 k y121 l0_1 (l0_1.length : Int) 0) = some (r1, r2) := by first | (rw [hy121]; exact H) | exact H
    have Ny121 := Aside0.mk hy121
    clear hy121
    have H' := Aside0.mk H
    clear H
    go_enter Try.func61, Try.ntmps61
    go_wp2_with (first | ((with_reducible refine gate_dst (N := 1) rfl ?_); refine bx9 (N := 1) (cs := #[.int .i64 a0_0, .slice A0_1 l0_1.length c0_1]) (t := 24) ?_; intro gb119 hg w6 hbox hb; have BK119 := Aside0.mk (hbox); have GW119 := gw9 HB hg; have GE119 := gw9 HB hg; replace HB := bs9 HB hb; clear hb hbox hg; have hcz7_0 := cz9 BK119 0; have hcz7_1 := cz9 BK119 1; have hfz7_0 := blk_frozen BK119.out 0; have hfz7_1 := blk_frozen BK119.out 1) | ((with_reducible refine gate_callee (f := 60) rfl ?_); refine gL9 (some 8) Try.func60 #[.agg #[.int .i64 a0_0, .slice A0_1 l0_1.length c0_1]] ?_; (with_reducible refine (simple_Valid.calls k a0_0 _ _ l0_1 true _ ?side1 ?side2 A2.out).mono ?_); (case side1 => exact cb9 HR0_1 HB); (case side2 => exact HC0_1.out); rintro e w8 ⟨rfl, hb⟩; refine ⟨_, rfl, ?_⟩; replace BK119 := bb9 BK119 hb; replace HB := bs9 HB hb; (try clear hb); have hcz9_0 := cz9 BK119 0; have hcz9_1 := cz9 BK119 1; have hfz9_0 := blk_frozen BK119.out 0; have hfz9_1 := blk_frozen BK119.out 1) | ((with_reducible refine gate_dst (N := 12) rfl ?_); refine Kd.R_make (Kd.int .i64) _ 3 rfl (N := 12) rfl 27 _ _ rfl a0_0 rfl rfl Try.underlying27 (.int .i64 0) 8 info3 rfl (by decide) (by omega) 0 (ok := fun _ => True) (okp := fun _ => True) rfl (fun _ hk => hk) trivial od9 (Nat.le_trans (Nat.mul_le_mul_right _ (od9 : a0_0.toNat ≤ 35184372088832)) (by omega)) (Below.refl _ _) (Nat.le_refl _) ?_; intro v122 w10 ho11 hb hg_ hnew_; clear hg_ hnew_; (first | rw [← Ny121.out] at ho11 | (simp only [Int.reduceToNat] at ho11; rw [← Ny121.out] at ho11)); have HO123 := Aside0.mk (Kd.R_lower ho11 (sz9 HB)); replace BK119 := bb9 BK119 hb; replace HB := bs9 HB hb; clear hb ho11; have hcz12_0 := cz9 BK119 0; have hcz12_1 := cz9 BK119 1; have hfz12_0 := blk_frozen BK119.out 0; have hfz12_1 := blk_frozen BK119.out 1))
    go_loopg [16] k (fun kq v16 w' => ∃ (x4_1 : List Int) (x16_1 : Int), v16 = .int .i64 x16_1 ∧ Aside0 (simple_Degrees.l0 kq x4_1 l0_1 (l0_1.length : Int) x16_1 = some (r1, r2)) ∧ Aside0 (kq ≤ k) ∧ Aside0 (Kd.R (Kd.int .i64) 3 w' w.heap.size (fun _ => True) v122 x4_1) ∧ Aside0 (w'.heap[gb119]? = some (.cells #[.int .i64 a0_0, (.slice A0_1 l0_1.length c0_1)] 24 (0, 0))) ∧ Aside0 (Below w.heap.size w w'))
    case atStart => exact ⟨(y121), (0), an9, H', ⟨Nat.le_refl _⟩, ⟨ro9 HO123⟩, bk9 BK119, ⟨bl9 HB⟩⟩
    case round =>
     clear H'
     try clear p2
     try clear c3
     try clear c4
     try clear c4b0
     try clear c4b1
     try clear c5
     try clear c5b0
     try clear c5b1
     try clear c6
     try clear hcz12_0
     try clear hcz12_1
     try clear hcz7_0
     try clear hcz7_1
     try clear hcz9_0
     try clear hcz9_1
     try clear hfz12_0
     try clear hfz12_1
     try clear hfz7_0
     try clear hfz7_1
     try clear hfz9_0
     try clear hfz9_1
     obtain ⟨x4_1, x16_1, rfl, HA, HK1, HO_4, BK119, HB⟩ := hrel
     cases gk with
     | zero => exact absurd HA.out (by simp [simple_Degrees.l0])
     | succ k1 =>
      have H := HA.out
      clear HA
      simp only [simple_Degrees.l0] at H
      by_cases c13 : x16_1 < (l0_1.length : Int)
      ·rw [if_pos c13] at H
       have c13b0 : decide (x16_1 < (l0_1.length : Int)) = true := decide_eq_true c13
       clear c13
       by_cases c14 : 0 ≤ x16_1
       ·rw [if_pos c14] at H
        have c14b0 : decide (0 ≤ x16_1) = true := decide_eq_true c14
        clear c14
        by_cases c15 : x16_1 < (l0_1.length : Int)
        ·rw [if_pos c15] at H
         have c15b0 : decide (x16_1 < (l0_1.length : Int)) = true := decide_eq_true c15
         clear c15
         by_cases c16 : 0 ≤ ((rd_T41 l0_1 x16_1).f0)
         ·rw [if_pos c16] at H
          have c16b0 : decide (0 ≤ ((rd_T41 l0_1 x16_1).f0)) = true := decide_eq_true c16
          clear c16
          by_cases c17 : ((rd_T41 l0_1 x16_1).f0) < (x4_1.length : Int)
          ·rw [if_pos c17] at H
           have c17b0 : decide (((rd_T41 l0_1 x16_1).f0) < (x4_1.length : Int)) = true := decide_eq_true c17
           clear c17
           obtain ⟨y127, hy127⟩ : ∃ y_ : List Int, y_ = (x4_1.set (((rd_T41 l0_1 x16_1).f0) : Int).toNat (wrap64 ((rd x4_1 ((rd_T41 l0_1 x16_1).f0)) + 1))) := ⟨_, rfl⟩
           replace H : (if 0 ≤ ((rd_T41 l0_1 x16_1).f1) then (if ((rd_T41 l0_1 x16_1).f1) < (x4_1.length : Int) then (simple_Degrees.l0 k1 (y127.set (((rd_T41 l0_1 x16_1).f1) : Int).toNat (wrap64 ((rd y127 ((rd_T41 l0_1 x16_1).f1)) + 1))) l0_1 (l0_1.length : Int) (wrap64 (x16_1 + 1))) else (none)) else (none)) = some (r1, r2) := by first | (rw [hy127]; exact H) | exact H
           have Ny127 := Aside0.mk hy127
           clear hy127
           by_cases c19 : 0 ≤ ((rd_T41 l0_1 x16_1).f1)
           ·rw [if_pos c19] at H
            have c19b0 : decide (0 ≤ ((rd_T41 l0_1 x16_1).f1)) = true := decide_eq_true c19
            clear c19
            by_cases c20 : ((rd_T41 l0_1 x16_1).f1) < (x4_1.length : Int)
            ·rw [if_pos c20] at H
             have c20b0 : decide (((rd_T41 l0_1 x16_1).f1) < (x4_1.length : Int)) = true := decide_eq_true c20
             clear c20
             obtain ⟨y129, hy129⟩ : ∃ y_ : List Int, y_ = (y127.set (((rd_T41 l0_1 x16_1).f1) : Int).toNat (wrap64 ((rd y127 ((rd_T41 l0_1 x16_1).f1)) + 1))) := ⟨_, rfl⟩
             replace H : (simple_Degrees.l0 k1 y129 l0_1 (l0_1.length : Int) (wrap64 (x16_1 + 1))) = some (r1, r2) := by first | (rw [hy129]; exact H) | exact H
             have Ny129 := Aside0.mk hy129
             clear hy129
             have H' := Aside0.mk H
             clear H
             have p124 : 0 ≤ (x16_1 : Int) := od9
             have q124 : x16_1 < (l0_1.length : Int) := od9
             obtain ⟨ad124, e124, hx124_0, hx124_1⟩ := at_T41 HR0_1.out x16_1 p124 q124
             cases e124
             replace hx124_0 := (HB.out.cell (World.block_lt_of_cell? w _ hx124_0)).trans hx124_0
             replace hx124_1 := (HB.out.cell (World.block_lt_of_cell? w _ hx124_1)).trans hx124_1
             replace p124 := eq_true p124
             replace q124 := eq_true q124
             go_wp2_with (first | ((with_reducible refine gate_dst (N := 6) rfl ?_); refine bx9 (N := 6) (cs := #[.int .i64 0, .int .i64 0]) (t := 41) ?_; intro gb125 hg w22 hbox hb; have BK125 := Aside0.mk (hbox); have GW125 := gw9 HB hg; have GE125 := gw9 HB hg; have NB119_125 := nl9 BK119 hg; have NB125_119 := ng9 BK119 hg; replace HO_4 := rb9 HO_4 hb; replace BK119 := bb9 BK119 hb; replace HB := bs9 HB hb; clear hb hbox hg; have hnb23 := NB125_119.out; have hnc23 := NB119_125.out; have hcz24_0 := cz9 BK125 0; have hcz24_1 := cz9 BK125 1; have hfz24_0 := blk_frozen BK125.out 0; have hfz24_1 := blk_frozen BK125.out 1) | ((with_reducible refine gate_store (t := 41) (p := 6) rfl ?_); refine store_event (t := 41) (p := 6) (v := ?vo_w25) (w1 := ((w22.setCell ⟨gb125, 0, none⟩ (.int .i64 ((rd_T41 l0_1 x16_1).f0))).setCell ⟨gb125, 1, none⟩ (.int .i64 ((rd_T41 l0_1 x16_1).f1)))) ?hg ?ho ?hn ?hr ?_; (case ho => rfl); (case hg => rfl); (case hn => rfl); (case hr => first | (go_simp; done) | (go_simp; rfl)); intro w25 hw; replace HO_4 : Aside0 (Kd.R (Kd.int .i64) 3 w25 w.heap.size (fun _ => True) v122 x4_1) := ⟨(by rw [hw]; exact (by (with_reducible repeat (first | apply Kd.R_alloc | apply Kd.R_drewN | apply Kd.R_drew)); exact Kd.R_mono (Kd.R_far (p := ⟨gb125, 1, none⟩) (Kd.R_far (p := ⟨gb125, 0, none⟩) (Kd.R_types HO_4.out BK125.out (by decide)) (fun _ hk => hk.2) (.int .i64 ((rd_T41 l0_1 x16_1).f0))) (fun _ hk => hk.2) (.int .i64 ((rd_T41 l0_1 x16_1).f1))) (fun _ hk => trivial)))⟩; replace BK119 : Aside0 (w25.heap[gb119]? = some (.cells #[.int .i64 a0_0, .slice (some ad124) l0_1.length c0_1] 24 (0, 0))) := ⟨(by rw [hw]; exact (by (with_reducible repeat (first | refine blk_drewN ?_ _ | refine blk_drew ?_ | refine blk_alloc ?_ _)); refine blk_far ?_ NB119_125.out _; (with_reducible repeat (first | refine blk_drewN ?_ _ | refine blk_drew ?_ | refine blk_alloc ?_ _)); refine blk_far ?_ NB119_125.out _; (with_reducible repeat (first | refine blk_drewN ?_ _ | refine blk_drew ?_ | refine blk_alloc ?_ _)); exact BK119.out))⟩; replace BK125 : Aside0 (w25.heap[gb125]? = some (.cells #[.int .i64 ((rd_T41 l0_1 x16_1).f0), .int .i64 ((rd_T41 l0_1 x16_1).f1)] 41 (0, 0))) := ⟨(by rw [hw]; exact (by (with_reducible repeat (first | refine blk_drewN ?_ _ | refine blk_drew ?_ | refine blk_alloc ?_ _)); refine blk_put (cs := #[.int .i64 ((rd_T41 l0_1 x16_1).f0), .int .i64 0]) ?_ 1 _ rfl; (with_reducible repeat (first | refine blk_drewN ?_ _ | refine blk_drew ?_ | refine blk_alloc ?_ _)); refine blk_put (cs := #[.int .i64 0, .int .i64 0]) ?_ 0 _ rfl; (with_reducible repeat (first | refine blk_drewN ?_ _ | refine blk_drew ?_ | refine blk_alloc ?_ _)); exact BK125.out))⟩; replace HB : Aside0 (Below w.heap.size w w25) := ⟨(by rw [hw]; exact (bl9 HB))⟩; clear hw; have hcz26_0 := cz9 BK125 0; have hcz26_1 := cz9 BK125 1; have hfz26_0 := blk_frozen BK125.out 0; have hfz26_1 := blk_frozen BK125.out 1; obtain ⟨Ao27, co27, eo27⟩ := Kd.R_slice HO_4.out; subst eo27; have p126 : 0 ≤ (((rd_T41 l0_1 x16_1).f0) : Int) := od9; have q126 : ((rd_T41 l0_1 x16_1).f0) < (x4_1.length : Int) := od9; obtain ⟨ad126, e126, hx126_0⟩ := Kd.at_int (Kd.R_reads' HO_4.out).2.2 ((rd_T41 l0_1 x16_1).f0) p126 q126; cases e126; replace p126 := eq_true p126; replace q126 := eq_true q126; have p18 : 0 ≤ (((rd_T41 l0_1 x16_1).f0) : Int) := od9; have q18 : (((rd_T41 l0_1 x16_1).f0) : Int) < ((x4_1.length : Int) : Int) := od9; obtain ⟨go18, co18, eo18, gb18, gl18, cl18, HG18⟩ := Kd.R_form HO_4.out (by omega); (first | cases eo18 | (injection eo18 with ea_ en_ ec_; (first | subst ea_ | (injection ea_ with ea_; subst ea_)); subst ec_; clear en_)); have GB18 := Aside0.mk gb18; have GG18 := Aside0.mk HG18; clear gb18 gl18 HG18; (first | simp only [add_plain] at hx126_0 | skip); obtain ⟨hx18_0, hf18_0⟩ := Kd.R_celln 0 HO_4.out (((rd_T41 l0_1 x16_1).f0) : Int) p18 q18; replace p18 := eq_true p18; replace q18 := eq_true q18; obtain ⟨hy28_, hz28_⟩ := Kd.R_celln 0 HO_4.out (((rd_T41 l0_1 x16_1).f0) : Int) od9 od9; have HP28 := Kd.R_putg HO_4.out (((rd_T41 l0_1 x16_1).f0) : Int) (wrap64 ((rd x4_1 ((rd_T41 l0_1 x16_1).f0)) + 1))) | ((with_reducible refine gate_store (t := 3) (p := 26) rfl ?_); refine store_event (t := 3) (p := 26) (v := ?vo_w29) (w1 := (w25.setCell ⟨go18, (((rd_T41 l0_1 x16_1).f0) : Int).toNat, none⟩ (.int .i64 (wrap64 ((rd x4_1 ((rd_T41 l0_1 x16_1).f0)) + 1))))) ?hg ?ho ?hn ?hr ?_; (case ho => rfl); (case hg => rfl); (case hn => rfl); (case hr => first | (go_simp; done) | (go_simp; rfl)); intro w29 hw; have hg : w25.grownBy w29 (some go18) := (by rw [hw]; exact HP28.2); have hp_ : Kd.R (Kd.int .i64) 3 w29 w.heap.size (fun _ => True) (.slice (some ⟨go18, 0, none⟩) x4_1.length co27) y127 := (by rw [hw, Ny127.out]; exact HP28.1); clear HP28; replace BK119 := Aside0.mk (blk_grown (g := gb119) (o := .cells #[.int .i64 a0_0, .slice (some ad124) l0_1.length c0_1] 24 (0, 0)) (by (with_reducible repeat (first | refine blk_drewN ?_ _ | refine blk_drew ?_ | refine blk_alloc ?_ _)); exact BK119.out) hg (Kd.R_ne HO_4.out BK119.out (by decide))); replace BK125 := Aside0.mk (blk_grown (g := gb125) (o := .cells #[.int .i64 ((rd_T41 l0_1 x16_1).f0), .int .i64 ((rd_T41 l0_1 x16_1).f1)] 41 (0, 0)) (by (with_reducible repeat (first | refine blk_drewN ?_ _ | refine blk_drew ?_ | refine blk_alloc ?_ _)); exact BK125.out) hg (Kd.R_ne HO_4.out BK125.out (by decide))); replace HO_4 := Aside0.mk (hp_); replace HB := Aside0.mk ((by rw [hw]; exact below_set (HB.out) GB18.out : Below w.heap.size w w29)); clear hg hw hp_; have hcz30_0 := cz9 BK125 0; have hcz30_1 := cz9 BK125 1; have hfz30_0 := blk_frozen BK125.out 0; have hfz30_1 := blk_frozen BK125.out 1; have p128 : 0 ≤ (((rd_T41 l0_1 x16_1).f1) : Int) := od9; have q128 : ((rd_T41 l0_1 x16_1).f1) < (y127.length : Int) := (by have h_ : (((rd_T41 l0_1 x16_1).f1) : Int) < ((x4_1.length : Int) : Int) := od9; first | (have e_ := (Kd.R_reads' HO_4.out).1; omega) | simpa only [Ny127.out, List.length_set] using h_); have ql128 : ((((rd_T41 l0_1 x16_1).f1) : Int) < ((x4_1.length : Int) : Int)) = True := eq_true od9; obtain ⟨ad128, e128, hx128_0⟩ := Kd.at_int (Kd.R_reads' HO_4.out).2.2 ((rd_T41 l0_1 x16_1).f1) p128 q128; obtain rfl : (⟨go18, 0, none⟩ : Addr) = ad128 := (by injection e128); (first | simp only [add_plain] at hx128_0 | simp only [add_at] at hx128_0 | simp only [Addr.add, Nat.zero_add] at hx128_0 | skip); replace p128 := eq_true p128; replace q128 := eq_true q128; have p21 : 0 ≤ (((rd_T41 l0_1 x16_1).f1) : Int) := od9; have q21 : (((rd_T41 l0_1 x16_1).f1) : Int) < ((x4_1.length : Int) : Int) := od9; obtain ⟨hx21_0, hf21_0⟩ := Kd.R_celln 0 HO_4.out (((rd_T41 l0_1 x16_1).f1) : Int) p21 q21; replace p21 := eq_true p21; replace q21 := eq_true q21; obtain ⟨hy31_, hz31_⟩ := Kd.R_celln 0 HO_4.out (((rd_T41 l0_1 x16_1).f1) : Int) od9 od9; have HP31 := Kd.R_putg HO_4.out (((rd_T41 l0_1 x16_1).f1) : Int) (wrap64 ((rd y127 ((rd_T41 l0_1 x16_1).f1)) + 1))) | ((with_reducible refine gate_store (t := 3) (p := 33) rfl ?_); refine store_event (t := 3) (p := 33) (v := ?vo_w32) (w1 := (w29.setCell ⟨go18, (((rd_T41 l0_1 x16_1).f1) : Int).toNat, none⟩ (.int .i64 (wrap64 ((rd y127 ((rd_T41 l0_1 x16_1).f1)) + 1))))) ?hg ?ho ?hn ?hr ?_; (case ho => rfl); (case hg => rfl); (case hn => rfl); (case hr => first | (go_simp; done) | (go_simp; rfl)); intro w32 hw; have hg : w29.grownBy w32 (some go18) := (by rw [hw]; exact HP31.2); have hp_ : Kd.R (Kd.int .i64) 3 w32 w.heap.size (fun _ => True) (.slice (some ⟨go18, 0, none⟩) x4_1.length co27) y129 := (by rw [hw, Ny129.out]; exact HP31.1); clear HP31; replace BK119 := Aside0.mk (blk_grown (g := gb119) (o := .cells #[.int .i64 a0_0, .slice (some ad124) l0_1.length c0_1] 24 (0, 0)) (by (with_reducible repeat (first | refine blk_drewN ?_ _ | refine blk_drew ?_ | refine blk_alloc ?_ _)); exact BK119.out) hg (Kd.R_ne HO_4.out BK119.out (by decide))); replace BK125 := Aside0.mk (blk_grown (g := gb125) (o := .cells #[.int .i64 ((rd_T41 l0_1 x16_1).f0), .int .i64 ((rd_T41 l0_1 x16_1).f1)] 41 (0, 0)) (by (with_reducible repeat (first | refine blk_drewN ?_ _ | refine blk_drew ?_ | refine blk_alloc ?_ _)); exact BK125.out) hg (Kd.R_ne HO_4.out BK125.out (by decide))); replace HO_4 := Aside0.mk (hp_); replace HB := Aside0.mk ((by rw [hw]; exact below_set (HB.out) GB18.out : Below w.heap.size w w32)); clear hg hw hp_))
             go_roundg k1
             case measure => have := HK1.out; omega
             case rel => exact ⟨(y129), (wrap64 (x16_1 + 1)), an9, H', ⟨by have := HK1.out; omega⟩, ⟨ro9 HO_4⟩, bk9 BK119, ⟨bl9 HB⟩⟩
            ·rw [if_neg c20] at H
             exact absurd H (by simp)
           ·rw [if_neg c19] at H
            exact absurd H (by simp)
          ·rw [if_neg c17] at H
           exact absurd H (by simp)
         ·rw [if_neg c16] at H
          exact absurd H (by simp)
        ·rw [if_neg c15] at H
         exact absurd H (by simp)
       ·rw [if_neg c14] at H
        exact absurd H (by simp)
      ·rw [if_neg c13] at H
       have c13b0 : decide (x16_1 < (l0_1.length : Int)) = false := decide_eq_false c13
       clear c13
       simp only [Option.some.injEq, Prod.mk.injEq] at H
       obtain ⟨rfl, rfl⟩ := H
       go_wp2
       go_ret2
       exact ⟨_, er9, by (with_reducible repeat (first | apply Kd.R_alloc | apply Kd.R_drewN | apply Kd.R_drew)); exact HO_4.out, bl9 HB⟩
   ·rw [if_neg c5] at H
    exact absurd H (by simp)
  ·rw [if_neg c4] at H
   exact absurd H (by simp)
 ·replace c3 := Bool.eq_false_iff.mpr c3
  subst c3
  rw [if_neg (show ¬ (false = true) by decide)] at H
  simp only [Option.some.injEq, Prod.mk.injEq] at H
  obtain ⟨rfl, rfl⟩ := H
  go_enter Try.func61, Try.ntmps61
  go_wp2_with (first | ((with_reducible refine gate_dst (N := 1) rfl ?_); refine bx9 (N := 1) (cs := #[.int .i64 a0_0, .slice A0_1 l0_1.length c0_1]) (t := 24) ?_; intro gb119 hg w33 hbox hb; have BK119 := Aside0.mk (hbox); have GW119 := gw9 HB hg; have GE119 := gw9 HB hg; replace HB := bs9 HB hb; clear hb hbox hg; have hcz34_0 := cz9 BK119 0; have hcz34_1 := cz9 BK119 1; have hfz34_0 := blk_frozen BK119.out 0; have hfz34_1 := blk_frozen BK119.out 1) | ((with_reducible refine gate_callee (f := 60) rfl ?_); refine gL9 (some 8) Try.func60 #[.agg #[.int .i64 a0_0, .slice A0_1 l0_1.length c0_1]] ?_; (with_reducible refine (simple_Valid.calls k a0_0 _ _ l0_1 false _ ?side1 ?side2 A2.out).mono ?_); (case side1 => exact cb9 HR0_1 HB); (case side2 => exact HC0_1.out); rintro e w35 ⟨rfl, hb⟩; refine ⟨_, rfl, ?_⟩; replace BK119 := bb9 BK119 hb; replace HB := bs9 HB hb; (try clear hb)))
  go_ret2
  exact ⟨_, er9, by first | exact Kd.R_nil _ _ _ _ _ | exact Kd.N_nil _ _ _ _ _ | exact Kd.V_nil _ _ _ _ _ | exact Kd.Q_nil _ _ _ _ _ | exact Kd.S_nil _ _ _ _ _, bl9 HB⟩
end GAll
namespace GAll
theorem rot_Check.pairs {w : World} {A : Option Addr} {l : List S41} (h : Kd.C k41 w A l.length l) : Mem.Pairs w A (l.map fun x => (x.f0, x.f1)) := by
 intro i hi
 rw [List.length_map] at hi
 obtain ⟨ad, e, h1, h2⟩ := at_T41 h (i : Int) (by omega) (by omega)
 have e2 : Mem.pe (l.map fun x => (x.f0, x.f1)) i = ((rd_T41 l (i : Int)).f0, (rd_T41 l (i : Int)).f1) := by
  unfold Mem.pe rd_T41
  simp [List.getD_eq_getElem?_getD, hi]
 rw [e2]
 exact ⟨ad, e, h1, h2⟩
def rot_Check.told (n : Int) (l : List S41) (r : List (List Int)) (d : List Int × Int) : Option (Int × Int) :=
 if 0 ≤ n ∧ n ≤ 1048576 ∧ l.length ≤ 4194304 ∧ (d.1.length : Int) = n ∧ d.2 = 0 then some (Rot.rows (Rot.froms (l.map fun x => (x.f0, x.f1))) d.1 0 r (List.replicate (2 * l.length) false)) else none
def rot_Check.f (k : Nat) (a0_0 : Int) (l0_1 : List S41) (l1 : List (List Int)) : Option (Int × Int) := (simple_Valid.f k a0_0 l0_1).bind fun t => if t = true then (if (l1.length : Int) = a0_0 then (simple_Degrees.f k a0_0 l0_1).bind fun d => rot_Check.told a0_0 l0_1 l1 d else some (0, 110)) else some (0, 1)
theorem rot_Check.mono : ∀ a0 a1 a2 k, LeO (rot_Check.f k a0 a1 a2) (rot_Check.f (k + 1) a0 a1 a2) := by
 intro a0 a1 a2 k
 unfold rot_Check.f
 refine LeO.bind (simple_Valid.mono _ _ _) (fun t => ?_)
 refine LeO.ite ?_ (LeO.refl _)
 refine LeO.ite ?_ (LeO.refl _)
 exact LeO.bind (simple_Degrees.mono _ _ _) (fun _ => LeO.refl _)
theorem rot_Check.calls (k : Nat) (a0_0 : Int) (A0_1 : Option Addr) (c0_1 : Nat) (l0_1 : List (S41)) (A1 : Option Addr) (c1 : Nat) (l1 : List (List Int)) (r1 : Int) (r2 : Int) (w : World) (hr0_1 : Kd.C k41 w A0_1 l0_1.length l0_1) (hc0_1 : l0_1.length ≤ c0_1) (hr1 : Kd.C (Kd.slice 3 (Kd.int .i64)) w A1 l1.length l1) (hc1 : l1.length ≤ c1) (h : rot_Check.f k a0_0 l0_1 l1 = some (r1, r2)) :
  Calls Try.prog 43 #[.agg #[.int .i64 a0_0, .slice A0_1 l0_1.length c0_1], .slice A1 l1.length c1] w fun e w' => e = .returned (.tuple #[.int .i64 r1, .int .i64 r2]) ∧ Below w.heap.size w w' := by
 obtain ⟨t, ht, h⟩ := Option.bind_eq_some_iff.mp h
 have hv : Rot.ValidSays t a0_0 A0_1 l0_1.length c0_1 w := fun W hW => simple_Valid.calls k a0_0 A0_1 c0_1 l0_1 t W (Kd.C_below hr0_1 hW) hc0_1 ht
 cases t with
 | false =>
  rw [if_neg (by decide)] at h
  obtain ⟨rfl, rfl⟩ : 0 = r1 ∧ 1 = r2 := by simpa using h
  exact Rot.checkCall (0, 1) a0_0 A0_1 l0_1.length c0_1 A1 l1.length c1 w (.inr (by decide)) (fun w' hw' => Rot.check_invalid a0_0 A0_1 l0_1.length c0_1 A1 l1.length c1 w' (fun W hW => hv W (hw'.trans (hW.mono hw'.size))))
 | true =>
  rw [if_pos rfl] at h
  by_cases hm : (l1.length : Int) = a0_0
  ·rw [if_pos hm] at h
   obtain ⟨d, hd, h⟩ := Option.bind_eq_some_iff.mp h
   unfold rot_Check.told at h
   by_cases hf : 0 ≤ a0_0 ∧ a0_0 ≤ 1048576 ∧ l0_1.length ≤ 4194304 ∧ (d.1.length : Int) = a0_0 ∧ d.2 = 0
   ·rw [if_pos hf] at h
    obtain ⟨h0, h1, h2, h3, h4⟩ := hf
    obtain ⟨n, rfl⟩ := Int.eq_ofNat_of_zero_le h0
    obtain ⟨ds, e0⟩ := d
    simp only at h3 h4 h
    subst h4
    have hds : Rot.DegreesSays ds (n : Int) A0_1 l0_1.length c0_1 w := fun W hW => simple_Degrees.calls k n A0_1 c0_1 l0_1 ds 0 W (Kd.C_below hr0_1 hW) hc0_1 hd
    have hlm : (l0_1.map fun x => (x.f0, x.f1)).length = l0_1.length := List.length_map ..
    have hp := rot_Check.pairs hr0_1
    obtain ⟨es, hes⟩ : ∃ es, es = l0_1.map fun x => (x.f0, x.f1) := ⟨_, rfl⟩
    rw [← hes] at h hlm hp
    rw [← hlm] at hv hds h h2 ⊢
    obtain ⟨res, hres⟩ : ∃ res, res = Rot.rows (Rot.froms es) ds 0 l1 (List.replicate (2 * es.length) false) := ⟨_, rfl⟩
    have hz := Rot.rows_zero (Rot.froms es) ds l1 0 (List.replicate (2 * es.length) false)
    rw [← hres] at h hz
    have hres2 : res = (r1, r2) := by simpa using h
    have key := Rot.checkCall res (n : Int) A0_1 es.length c0_1 A1 l1.length c1 w hz (fun w' hw' => by
     rw [hres]
     exact Rot.check_rows n A0_1 c0_1 es A1 c1 l1 ds w' (fun W hW => hv W (hw'.trans (hW.mono hw'.size))) (fun W hW => hds W (hw'.trans (hW.mono hw'.size))) (hp.below hw') h2 (by omega) (Kd.C_below hr1 hw') (by omega) (by omega))
    rw [hres2] at key
    exact key
   ·rw [if_neg hf] at h; cases h
  ·rw [if_neg hm] at h
   obtain ⟨rfl, rfl⟩ : 0 = r1 ∧ 110 = r2 := by simpa using h
   by_cases hn : 0 ≤ a0_0
   ·obtain ⟨n, rfl⟩ := Int.eq_ofNat_of_zero_le hn
    exact Rot.checkCall (0, 110) (n : Int) A0_1 l0_1.length c0_1 A1 l1.length c1 w (.inr (by decide)) (fun w' hw' => Rot.check_length n A0_1 l0_1.length c0_1 A1 l1.length c1 w' (fun W hW => hv W (hw'.trans (hW.mono hw'.size))) (by omega))
   ·exact absurd ((ValH.goodB_iff _ _).1 (by simpa [simple_Valid.f] using ht)).1 hn
end GAll
namespace Rot
open GAll Mem
abbrev Ed := PureV.E
def ends (l : List Ed) : List (Int × Int) := l.map fun x => (x.f0, x.f1)
theorem ends_length (l : List Ed) : (ends l).length = l.length := List.length_map ..
def frs (l : List Ed) : List Int := froms (ends l)
theorem frs_length (l : List Ed) : (frs l).length = 2 * l.length := by unfold frs; rw [froms_length, ends_length]
theorem froms_even : ∀ (es : List (Int × Int)) (i : Nat), i < es.length → gi (froms es) (2 * i) = (pe es i).1 ∧ gi (froms es) (2 * i + 1) = (pe es i).2
 | [], i, h => absurd h (by simp)
 | e :: es, 0, h => ⟨rfl, rfl⟩
 | e :: es, i + 1, h => froms_even es i (by simpa using h)
theorem pe_ends {l : List Ed} {i : Nat} (h : i < l.length) : pe (ends l) i = ((PureV.rdE l (i : Nat)).f0, (PureV.rdE l (i : Nat)).f1) := by
 have e : PureV.rdE l (i : Nat) = l[i] := by
  show l.getD ((i : Int).toNat) _ = _
  rw [Int.toNat_natCast, List.getD_eq_getElem?_getD, List.getElem?_eq_getElem h]
  rfl
 rw [e]
 unfold pe ends
 simp [List.getD_eq_getElem?_getD, h]
theorem frs_even {l : List Ed} {i : Nat} (h : i < l.length) : gi (frs l) (2 * i) = (PureV.rdE l (i : Nat)).f0 := by
 have := (froms_even (ends l) i (by rw [ends_length]; exact h)).1
 rw [pe_ends h] at this; exact this
theorem frs_odd {l : List Ed} {i : Nat} (h : i < l.length) : gi (frs l) (2 * i + 1) = (PureV.rdE l (i : Nat)).f1 := by
 have := (froms_even (ends l) i (by rw [ends_length]; exact h)).2
 rw [pe_ends h] at this; exact this
theorem frs_range {n : Int} {l : List Ed} (hg : PureV.Good n l) {h : Nat} (hh : h < 2 * l.length) : 0 ≤ gi (frs l) h ∧ gi (frs l) h < n := by
 have hi : h / 2 < l.length := by omega
 obtain ⟨⟨a, b, c⟩, _⟩ := hg.2.2.2 (h / 2) hi
 rcases Nat.mod_two_eq_zero_or_one h with e | e
 ·have e2 : h = 2 * (h / 2) := by omega
  rw [e2, frs_even hi]; omega
 ·have e2 : h = 2 * (h / 2) + 1 := by omega
  rw [e2, frs_odd hi]; omega
def cnt (fr : List Int) (m : Nat) (v : Int) : Nat := ((List.range m).filter fun j => gi fr j == v).length
theorem cnt_le (fr : List Int) (m : Nat) (v : Int) : cnt fr m v ≤ m := by
 have := List.length_filter_le (fun j => gi fr j == v) (List.range m)
 rw [List.length_range] at this
 exact this
theorem cnt_succ (fr : List Int) (m : Nat) (v : Int) : cnt fr (m + 1) v = cnt fr m v + if gi fr m = v then 1 else 0 := by
 unfold cnt
 rw [List.range_succ, List.filter_append, List.length_append]
 congr 1
 by_cases h : gi fr m = v
 ·rw [if_pos h]; simp [h]
 ·rw [if_neg h]; simp [h]
theorem leaving_cnt (fr : List Int) (v : Nat) : (leaving fr v).length = cnt fr fr.length v := by unfold leaving cnt; rw [List.length_map]
theorem cnt_put {fr : List Int} {n m : Nat} {ds : List Int} {x : Int} (hx : gi fr m = x) (h0 : 0 ≤ x) (h1 : x < n) (hl : ds.length = n) (hm : m ≤ 9000000) (h : ∀ v, v < n → gi ds v = (cnt fr m v : Int)) :
  ∀ v, v < n → gi (ds.set x.toNat (wrap64 (rd ds x + 1))) v = (cnt fr (m + 1) v : Int) := by
 intro v hv
 obtain ⟨y, rfl⟩ := Int.eq_ofNat_of_zero_le h0
 have hy : y < n := by omega
 have hc := cnt_le fr m y
 rw [gi_rd, h y hy, IntWalk.wrap64_in _ (by omega), gi_set, cnt_succ, Int.toNat_natCast, hx, hl]
 by_cases e : y = v
 ·subst e
  rw [if_pos ⟨rfl, hv⟩, if_pos rfl]; omega
 ·rw [if_neg (fun q => e q.1), if_neg (by omega), h v hv]; omega
theorem degrees_loop {n : Nat} {l : List Ed} (hg : PureV.Good (n : Int) l) (d : Nat) : ∀ (i : Nat) (ds : List Int), i + d = l.length → ds.length = n → (∀ v, v < n → gi ds v = (cnt (frs l) (2 * i) v : Int)) →
  ∃ ds', Ev (fun k => simple_Degrees.l0 k ds l (l.length : Int) (i : Int)) (ds', 0) ∧ ds'.length = n ∧ ∀ v, v < n → gi ds' v = (cnt (frs l) (2 * l.length) v : Int) := by
 induction d with
 | zero =>
  intro i ds hi hl hv
  refine ⟨ds, Ev.step (f := fun _ => some (ds, 0)) (fun k => ?_) (Ev.now _), hl, fun v h => ?_⟩
  ·simp only [simple_Degrees.l0]
   rw [if_neg (by omega)]
  ·rw [hv v h, show i = l.length by omega]
 | succ d ih =>
  intro i ds hi hl hv
  have hll := hg.2.2.1
  obtain ⟨⟨a, b, c⟩, _⟩ := hg.2.2.2 i (by omega)
  have h1 := cnt_put (n := n) (m := 2 * i) (fr := frs l) (ds := ds) (frs_even (l := l) (i := i) (by omega)) a (by omega) hl (by omega) hv
  have h2 := cnt_put (n := n) (fr := frs l) (m := 2 * i + 1) (frs_odd (l := l) (i := i) (by omega)) (by omega) c (by rw [List.length_set]; exact hl) (by omega) h1
  obtain ⟨ds', e1, e2, e3⟩ := ih (i + 1) _ (by omega) (List.length_set.trans (List.length_set.trans hl)) h2
  refine ⟨ds', Ev.step (fun k => ?_) e1, e2, e3⟩
  simp only [simple_Degrees.l0]
  rw [if_pos (by omega), if_pos (show (0 : Int) ≤ (i : Int) by omega), if_pos (show (i : Int) < (l.length : Int) by omega)]
  change (if 0 ≤ (PureV.rdE l (i : Nat)).f0 then _ else _) = _
  rw [if_pos a]
  change (if (PureV.rdE l (i : Nat)).f0 < (ds.length : Int) then _ else _) = _
  rw [if_pos (by omega), Option.bind_some]
  change (if 0 ≤ (PureV.rdE l (i : Nat)).f1 then _ else _) = _
  rw [if_pos (by omega)]
  change (if (PureV.rdE l (i : Nat)).f1 < (ds.length : Int) then _ else _) = _
  rw [if_pos (by omega), PureV.wadd (i := i) (by omega)]
theorem degrees_ev {n : Nat} {l : List Ed} (hg : PureV.Good (n : Int) l) (hv : Ev (fun k => simple_Valid.f k (n : Int) l) true) :
  ∃ ds, Ev (fun k => simple_Degrees.f k (n : Int) l) (ds, 0) ∧ ds.length = n ∧ ∀ v, v < n → gi ds v = ((leaving (frs l) v).length : Int) := by
 obtain ⟨ds, e1, e2, e3⟩ := degrees_loop hg l.length 0 (List.replicate n 0) (by omega) (by simp) (fun v h => by
  unfold gi cnt
  simp [List.getD_eq_getElem?_getD, List.getElem?_replicate, h])
 refine ⟨ds, ?_, e2, fun v h => by rw [e3 v h, leaving_cnt, frs_length]⟩
 unfold simple_Degrees.f
 refine Ev.bind hv ?_
 have := hg.2.1
 refine Ev.congr (fun k => ?_) e1
 rw [if_pos rfl, if_pos (by omega), if_pos (by omega)]
 rfl
theorem check_no {n : Int} {l : List Ed} {r : List (List Int)} (hv : Ev (fun k => simple_Valid.f k n l) false) : Ev (fun k => rot_Check.f k n l r) (0, 1) := by
 unfold rot_Check.f
 refine Ev.bind hv ?_
 exact Ev.congr (fun k => if_neg (by decide)) (Ev.now _)
theorem check_len {n : Int} {l : List Ed} {r : List (List Int)} (hv : Ev (fun k => simple_Valid.f k n l) true) (h : (r.length : Int) ≠ n) : Ev (fun k => rot_Check.f k n l r) (0, 110) := by
 unfold rot_Check.f
 refine Ev.bind hv ?_
 exact Ev.congr (fun k => by rw [if_pos rfl, if_neg h]) (Ev.now _)
theorem check_all {n : Nat} {l : List Ed} {r : List (List Int)} (hg : PureV.Good (n : Int) l) (hv : Ev (fun k => simple_Valid.f k (n : Int) l) true) (h : r.length = n) {ds : List Int} (hd : Ev (fun k => simple_Degrees.f k (n : Int) l) (ds, 0)) (hl : ds.length = n) :
  Ev (fun k => rot_Check.f k (n : Int) l r) (rows (frs l) ds 0 r (List.replicate (frs l).length false)) := by
 unfold rot_Check.f
 refine Ev.bind hv ?_
 refine Ev.congr (f := fun k => (simple_Degrees.f k (n : Int) l).bind fun d => rot_Check.told n l r d) (fun k => by rw [if_pos rfl, if_pos (by omega)]) ?_
 refine Ev.bind hd ?_
 refine Ev.congr (fun k => ?_) (Ev.now _)
 have h1 := hg.2.1
 have h2 := hg.2.2.1
 unfold rot_Check.told
 rw [if_pos ⟨by omega, h1, h2, by simp only; omega, rfl⟩, frs_length]
 rfl
def NextOf (r : List (List Int)) (m : Nat) (nx : List Int) : Prop := nx.length = m ∧ ∀ v, v < r.length → ∀ j, j < (gl r v).length → gi nx (gi (gl r v) j).toNat = gi (gl r v) ((j + 1) % (gl r v).length)
theorem gi_mem {l : List Int} {j : Nat} (h : j < l.length) : gi l j ∈ l := by
 unfold gi
 rw [List.getD_eq_getElem?_getD, List.getElem?_eq_getElem h]
 exact List.getElem_mem h
theorem mem_gi {l : List Int} {x : Int} (h : x ∈ l) : ∃ j, j < l.length ∧ gi l j = x := by
 obtain ⟨j, hj, e⟩ := List.getElem_of_mem h
 exact ⟨j, hj, by unfold gi; rw [List.getD_eq_getElem?_getD, List.getElem?_eq_getElem hj]; exact e⟩
theorem gi_inj {l : List Int} (hn : l.Nodup) {i j : Nat} (hi : i < l.length) (hj : j < l.length) (e : gi l i = gi l j) : i = j := by
 unfold gi at e
 rw [List.getD_eq_getElem?_getD, List.getD_eq_getElem?_getD, List.getElem?_eq_getElem hi, List.getElem?_eq_getElem hj, Option.getD_some, Option.getD_some] at e
 rcases Nat.lt_trichotomy i j with q | q | q
 ·exact absurd e (List.pairwise_iff_getElem.1 hn i j hi hj q)
 ·exact q
 ·exact absurd e.symm (List.pairwise_iff_getElem.1 hn j i hj hi q)
section
variable {fr : List Int} {n : Nat} {r : List (List Int)}
theorem IsRot.at (h : IsRot fr n r) {v j : Nat} (hv : v < n) (hj : j < (gl r v).length) : 0 ≤ gi (gl r v) j ∧ gi (gl r v) j < (fr.length : Int) ∧ gi fr (gi (gl r v) j).toNat = v := leaves_iff.1 ((h.mem v hv _).1 (gi_mem hj))
theorem IsRot.place (h : IsRot fr n r) (hf : ∀ x, x < fr.length → 0 ≤ gi fr x ∧ gi fr x < n) {x : Nat} (hx : x < fr.length) : ∃ v j, v < n ∧ gi fr x = (v : Int) ∧ j < (gl r v).length ∧ gi (gl r v) j = (x : Int) := by
 obtain ⟨h0, h1⟩ := hf x hx
 obtain ⟨v, hv⟩ := Int.eq_ofNat_of_zero_le h0
 have hvn : v < n := by omega
 obtain ⟨j, hj, e⟩ := mem_gi ((h.mem v hvn (x : Int)).2 (leaves_iff.2 ⟨by omega, by omega, by rw [Int.toNat_natCast]; exact hv⟩))
 exact ⟨v, j, hvn, hv, hj, e⟩
theorem IsRot.inj (h : IsRot fr n r) {u v i j : Nat} (hu : u < n) (hv : v < n) (hi : i < (gl r u).length) (hj : j < (gl r v).length) (e : (gi (gl r u) i).toNat = (gi (gl r v) j).toNat) : u = v ∧ i = j := by
 obtain ⟨a1, a2, a3⟩ := h.at hu hi
 obtain ⟨b1, b2, b3⟩ := h.at hv hj
 obtain rfl : u = v := by rw [e, b3] at a3; omega
 exact ⟨rfl, gi_inj (h.nodup u hu) hi hj (by omega)⟩
end
end Rot
namespace Seen
open Mem
def tw (h : Int) : Int := Go.bits .xor .i64 h 1
def it (nx : List Int) (h : Int) : Nat → Int
 | 0 => h
 | j + 1 => gi nx (it nx h j).toNat
def per (nx : List Int) (h : Int) : Nat := (((List.range nx.length).find? fun j => it nx h (j + 1) == h).map (· + 1)).getD 0
structure St where
 num : List Int
 ent : List Int
 ord : List Int
 cd : List Int
def stepH (tos : List Int) (s : St) (h : Int) : St :=
 if gi s.num (gi tos h.toNat).toNat < 0 then ⟨s.num.set (gi tos h.toNat).toNat s.ord.length, s.ent ++ [tw h], s.ord ++ [gi tos h.toNat], s.cd ++ [(s.ord.length : Int)]⟩
 else ⟨s.num, s.ent, s.ord, s.cd ++ [gi s.num (gi tos h.toNat).toNat]⟩
def turn (nx tos : List Int) (s : St) (h : Int) : Nat → St
 | 0 => s
 | j + 1 => stepH tos (turn nx tos s h j) (it nx h j)
def vert (nx tos : List Int) (s : St) (h : Int) : St :=
 { turn nx tos { s with cd := [] } h (per nx h) with cd := s.cd ++ ((per nx h : Nat) : Int) :: (turn nx tos { s with cd := [] } h (per nx h)).cd }
def upto (nx tos : List Int) (s : St) : Nat → St
 | 0 => s
 | k + 1 => if k < (upto nx tos s k).ent.length then vert nx tos (upto nx tos s k) (gi (upto nx tos s k).ent k) else upto nx tos s k
def start (n : Nat) (tos : List Int) (root : Int) (v : Int) : St := ⟨(List.replicate n (-1)).set v.toNat 0, [root], [v], []⟩
def all (n : Nat) (nx tos : List Int) (root : Int) : St := upto nx tos (start n tos root (gi tos (tw root).toNat)) n
def inR (x : Int) (m : Nat) : Bool := decide (0 ≤ x ∧ x < (m : Int))
def fit (n : Nat) (nx tos : List Int) : Bool := decide (n ≤ 1048576 ∧ nx.length ≤ 8388608 ∧ tos.length = nx.length) &&
 (List.range nx.length).all fun h => inR (gi nx h) nx.length && inR (gi tos h) n && inR (tw (h : Nat)) nx.length && decide (0 < per nx (h : Nat))
structure Fit (n : Nat) (nx tos : List Int) : Prop where
 hn : n ≤ 1048576
 hm : nx.length ≤ 8388608
 ht : tos.length = nx.length
 hnx : ∀ h, h < nx.length → 0 ≤ gi nx h ∧ gi nx h < (nx.length : Int)
 htos : ∀ h, h < nx.length → 0 ≤ gi tos h ∧ gi tos h < (n : Int)
 htw : ∀ h : Nat, h < nx.length → 0 ≤ tw (h : Int) ∧ tw (h : Int) < (nx.length : Int)
 hper : ∀ h : Nat, h < nx.length → 0 < per nx (h : Int)
def neg (l : List Int) : Nat := (l.filter fun x => decide (x < 0)).length
theorem neg_set : ∀ (l : List Int) (i : Nat) (x : Int), i < l.length → gi l i < 0 → 0 ≤ x → neg (l.set i x) + 1 = neg l
 | [], i, x, h, _, _ => by simp at h
 | a :: l, 0, x, h, h1, h2 => by
  have h1 : a < 0 := h1
  unfold neg
  simp only [List.set_cons_zero]
  rw [List.filter_cons_of_neg (by simpa using h2), List.filter_cons_of_pos (by simpa using h1)]
  rfl
 | a :: l, i + 1, x, h, h1, h2 => by
  have ih := neg_set l i x (by simpa using h) h1 h2
  unfold neg at ih ⊢
  simp only [List.set_cons_succ, List.filter_cons]
  split
  ·simp only [List.length_cons]; omega
  ·exact ih
theorem neg_all (n : Nat) : neg (List.replicate n (-1)) = n := by
 unfold neg
 rw [List.filter_eq_self.2 (fun x hx => by rw [List.eq_of_mem_replicate hx]; rfl), List.length_replicate]
structure Ok (n m : Nat) (s : St) : Prop where
 num : s.num.length = n
 ent : s.ent.length = s.ord.length
 cnt : s.ord.length + neg s.num = n
 inE : ∀ i, i < s.ent.length → 0 ≤ gi s.ent i ∧ gi s.ent i < (m : Int)
 inO : ∀ i, i < s.ord.length → 0 ≤ gi s.ord i ∧ gi s.ord i < (n : Int)
theorem gi_app {x : List Int} {h : Int} {i : Nat} : gi (x ++ [h]) i = if i < x.length then gi x i else if i = x.length then h else 0 := by
 unfold gi
 rw [List.getD_eq_getElem?_getD, List.getD_eq_getElem?_getD]
 by_cases c : i < x.length
 ·rw [if_pos c, List.getElem?_append_left c]
 ·rw [if_neg c, List.getElem?_append_right (by omega)]
  by_cases d : i = x.length
  ·subst d; simp
  ·rw [if_neg d, List.getElem?_eq_none (by simp; omega)]; rfl
theorem Ok.step {n : Nat} {nx tos : List Int} (hf : Fit n nx tos) {s : St} (h : Ok n nx.length s) {q : Int} (h0 : 0 ≤ q) (h1 : q < (nx.length : Int)) : Ok n nx.length (stepH tos s q) := by
 obtain ⟨p, rfl⟩ := Int.eq_ofNat_of_zero_le h0
 have hp : p < nx.length := by omega
 have ht := hf.htos p hp
 have hw := hf.htw p hp
 unfold stepH
 rw [Int.toNat_natCast]
 by_cases c : gi s.num (gi tos p).toNat < 0
 ·rw [if_pos c]
  have hl : (gi tos p).toNat < s.num.length := by rw [h.num]; omega
  have hn := neg_set s.num (gi tos p).toNat (s.ord.length : Int) hl c (by omega)
  have hc := h.cnt
  have hE := h.ent
  refine ⟨by simp [h.num], by simp [hE], by simp only [List.length_append, List.length_singleton]; omega, fun i hi => ?_, fun i hi => ?_⟩
  ·simp only [List.length_append, List.length_singleton] at hi
   simp only [gi_app]
   by_cases d : i < s.ent.length
   ·rw [if_pos d]; exact h.inE i d
   ·rw [if_neg d, if_pos (by omega)]; exact hw
  ·simp only [List.length_append, List.length_singleton] at hi
   simp only [gi_app]
   by_cases d : i < s.ord.length
   ·rw [if_pos d]; exact h.inO i d
   ·rw [if_neg d, if_pos (by omega)]; exact ht
 ·rw [if_neg c]
  exact ⟨h.num, h.ent, h.cnt, h.inE, h.inO⟩
theorem it_in {n : Nat} {nx tos : List Int} (hf : Fit n nx tos) {q : Int} (h0 : 0 ≤ q) (h1 : q < (nx.length : Int)) : ∀ j, 0 ≤ it nx q j ∧ it nx q j < (nx.length : Int)
 | 0 => ⟨h0, h1⟩
 | j + 1 => by
  obtain ⟨a, b⟩ := it_in hf h0 h1 j
  exact hf.hnx _ (by omega)
theorem Ok.cd {n m : Nat} {s : St} (h : Ok n m s) (c : List Int) : Ok n m { s with cd := c } := ⟨h.num, h.ent, h.cnt, h.inE, h.inO⟩
theorem Ok.turn {n : Nat} {nx tos : List Int} (hf : Fit n nx tos) {s : St} (h : Ok n nx.length s) {q : Int} (h0 : 0 ≤ q) (h1 : q < (nx.length : Int)) : ∀ j, Ok n nx.length (turn nx tos s q j)
 | 0 => h
 | j + 1 => (Ok.turn hf h h0 h1 j).step hf (it_in hf h0 h1 j).1 (it_in hf h0 h1 j).2
theorem Ok.vert {n : Nat} {nx tos : List Int} (hf : Fit n nx tos) {s : St} (h : Ok n nx.length s) {q : Int} (h0 : 0 ≤ q) (h1 : q < (nx.length : Int)) : Ok n nx.length (vert nx tos s q) := (Ok.turn hf (h.cd []) h0 h1 _).cd _
theorem Ok.upto {n : Nat} {nx tos : List Int} (hf : Fit n nx tos) {s : St} (h : Ok n nx.length s) : ∀ k, Ok n nx.length (upto nx tos s k)
 | 0 => h
 | k + 1 => by
  have ih := Ok.upto hf h k
  unfold Seen.upto
  split
  ·rename_i hk; exact ih.vert hf (ih.inE k hk).1 (ih.inE k hk).2
  ·exact ih
theorem Ok.le {n m : Nat} {s : St} (h : Ok n m s) : s.ent.length ≤ n := by have := h.cnt; have := h.ent; omega
theorem Ok.start {n m : Nat} {tos : List Int} {root v : Int} (hr : 0 ≤ root ∧ root < (m : Int)) (hv : 0 ≤ v ∧ v < (n : Int)) : Ok n m (start n tos root v) := by
 obtain ⟨i, rfl⟩ := Int.eq_ofNat_of_zero_le hv.1
 have h1 : i < n := by omega
 have h2 : gi (List.replicate n (-1)) i < 0 := by
  unfold gi
  rw [List.getD_eq_getElem?_getD, List.getElem?_replicate, if_pos h1]; decide
 have h3 := neg_set (List.replicate n (-1)) i 0 (by simpa using h1) h2 (by omega)
 rw [neg_all] at h3
 refine ⟨by simp [Seen.start], rfl, ?_, fun j hj => ?_, fun j hj => ?_⟩
 ·show 1 + neg ((List.replicate n (-1)).set i 0) = n
  omega
 ·have : j = 0 := by simpa [Seen.start] using hj
  subst this; exact hr
 ·have : j = 0 := by simpa [Seen.start] using hj
  subst this; exact hv
end Seen
namespace Graph
open Mem Rot
theorem froms_two : ∀ (es : List (Int × Int)) (i : Nat), i < es.length → gi (froms es) (2 * i) = (pe es i).1 ∧ gi (froms es) (2 * i + 1) = (pe es i).2
 | [], i, h => by simp at h
 | e :: es, 0, _ => ⟨rfl, rfl⟩
 | e :: es, i + 1, h => by
  have ih := froms_two es i (by simpa using h)
  have e1 : froms (e :: es) = e.1 :: e.2 :: froms es := rfl
  have e2 : pe (e :: es) (i + 1) = pe es i := by unfold pe; simp
  rw [e1, e2, show 2 * (i + 1) = 2 * i + 1 + 1 by omega]
  exact ih
def tosL (es : List (Int × Int)) : List Int := es.flatMap fun e => [e.2, e.1]
theorem tos_two : ∀ (es : List (Int × Int)) (i : Nat), i < es.length → gi (tosL es) (2 * i) = (pe es i).2 ∧ gi (tosL es) (2 * i + 1) = (pe es i).1
 | [], i, h => by simp at h
 | e :: es, 0, _ => ⟨rfl, rfl⟩
 | e :: es, i + 1, h => by
  have ih := tos_two es i (by simpa using h)
  have e1 : tosL (e :: es) = e.2 :: e.1 :: tosL es := rfl
  have e2 : pe (e :: es) (i + 1) = pe es i := by unfold pe; simp
  rw [e1, e2, show 2 * (i + 1) = 2 * i + 1 + 1 by omega]
  exact ih
end Graph
namespace Seen
open Mem
theorem xor_one2 (q : Nat) : q ^^^ 1 = if q % 2 = 0 then q + 1 else q - 1 := by
 have h1 : (q ^^^ 1) / 2 = q / 2 := by rw [Nat.xor_div_two]; simp
 have h2 : (q ^^^ 1) % 2 = (q + 1) % 2 := by
  have h := Nat.xor_mod_two_pow (a := q) (b := 1) (n := 1)
  rw [show 2 ^ 1 = 2 from rfl] at h
  rw [h]
  rcases Nat.mod_two_eq_zero_or_one q with e | e <;> rw [e] <;> simp <;> omega
 split <;> omega
theorem tw_nat {q : Nat} (h : q ≤ 9000000) : tw (q : Int) = ((if q % 2 = 0 then q + 1 else q - 1 : Nat) : Int) := by
 unfold tw Go.bits
 have e : (BitVec.ofInt IntKind.i64.bits (q : Int) ^^^ BitVec.ofInt IntKind.i64.bits 1).toNat = q ^^^ 1 := by
  rw [BitVec.toNat_xor, BitVec.toNat_ofInt, BitVec.toNat_ofInt]
  have hb : IntKind.i64.bits = 64 := rfl
  rw [hb]
  have e1 : ((q : Int) % (2 ^ 64 : Nat)).toNat = q := by omega
  have e2 : ((1 : Int) % (2 ^ 64 : Nat)).toNat = 1 := by omega
  rw [e1, e2]
 simp only [e]
 rw [xor_one2, IntWalk.i64_in _ (by split <;> omega)]
theorem tw_in {m q : Nat} (hm : m ≤ 4194304) (h : q < 2 * m) : 0 ≤ tw (q : Int) ∧ tw (q : Int) < ((2 * m : Nat) : Int) := by
 rw [tw_nat (by omega)]
 split <;> omega
theorem froms_tw {es : List (Int × Int)} (hm : es.length ≤ 4194304) {h : Nat} (hh : h < 2 * es.length) : gi (Rot.froms es) h = gi (Graph.tosL es) (tw (h : Int)).toNat ∧ gi (Graph.tosL es) h = gi (Rot.froms es) (tw (h : Int)).toNat := by
 rw [tw_nat (by omega), Int.toNat_natCast]
 by_cases c : h % 2 = 0
 ·rw [if_pos c]
  obtain ⟨i, rfl⟩ : ∃ i, h = 2 * i := ⟨h / 2, by omega⟩
  have h1 := Graph.froms_two es i (by omega)
  have h2 := Graph.tos_two es i (by omega)
  exact ⟨by rw [h1.1, h2.2], by rw [h1.2, h2.1]⟩
 ·rw [if_neg c]
  obtain ⟨i, rfl⟩ : ∃ i, h = 2 * i + 1 := ⟨h / 2, by omega⟩
  have h1 := Graph.froms_two es i (by omega)
  have h2 := Graph.tos_two es i (by omega)
  rw [Nat.add_sub_cancel]
  exact ⟨by rw [h1.2, h2.1], by rw [h1.1, h2.2]⟩
end Seen
namespace Graph
open Mem Rot
def cntF (fr : List Int) (m : Nat) (v : Int) : Nat := ((List.range m).filter fun j => gi fr j == v).length
theorem cntF_succ (fr : List Int) (m : Nat) (v : Int) : cntF fr (m + 1) v = cntF fr m v + if gi fr m = v then 1 else 0 := by
 unfold cntF
 rw [List.range_succ, List.filter_append, List.length_append]
 by_cases h : gi fr m = v
 ·simp [h]
 ·simp [h]
theorem cntF_le (fr : List Int) (m : Nat) (v : Int) : cntF fr m v ≤ m := by
 unfold cntF
 exact Nat.le_trans (List.length_filter_le _ _) (by simp)
end Graph
namespace Graph
open Mem Rot
theorem leaving_cntF (fr : List Int) (v : Nat) : (leaving fr v).length = cntF fr fr.length v := by unfold leaving cntF; rw [List.length_map]
theorem mem_gi2 {l : List Int} {x : Int} (h : x ∈ l) : ∃ j, j < l.length ∧ gi l j = x := by
 obtain ⟨j, hj, e⟩ := List.getElem_of_mem h
 exact ⟨j, hj, by unfold gi; rw [List.getD_eq_getElem?_getD, List.getElem?_eq_getElem hj]; exact e⟩
theorem take_gi {l : List Int} {j : Nat} (h : j < l.length) : l.take (j + 1) = l.take j ++ [gi l j] := by
 rw [List.take_succ_eq_append_getElem h]
 unfold gi
 rw [List.getD_eq_getElem?_getD, List.getElem?_eq_getElem h]; rfl
structure EInv (fr ds : List Int) (v : Nat) (row : List Int) (rest : List (List Int)) (T : List Bool) (i : Nat) (res : Int × Int) : Prop where
 len : T.length = fr.length
 lv : ∀ j, j < i → leaves fr v (gi row j) = true
 nd : (row.take i).Nodup
 m1 : ∀ q : Nat, gb T q = true → (∃ u, u < v ∧ leaves fr u (q : Int) = true) ∨ (q : Int) ∈ row.take i
 m2 : ∀ q : Nat, (q : Int) ∈ row.take i → gb T q = true
 res : after fr ds v row rest (elems fr v (row.drop i) T) = res
section
variable {fr ds : List Int} {v : Nat} {row : List Int} {rest : List (List Int)} {T : List Bool} {i : Nat} {res : Int × Int}
theorem EInv.bad (h : EInv fr ds v row rest T i res) (hi : i < row.length) (hl : leaves fr v (gi row i) = false) : res = ((v : Int), 111) := by
 rw [← h.res, drop_int hi, elems_cons_no hl]; rfl
theorem EInv.seen (h : EInv fr ds v row rest T i res) (hi : i < row.length) (hl : leaves fr v (gi row i) = true) : gb T (gi row i).toNat = true ↔ gi row i ∈ row.take i := by
 obtain ⟨l1, l2, l3⟩ := leaves_iff.1 hl
 obtain ⟨q, hq⟩ := Int.eq_ofNat_of_zero_le l1
 constructor
 ·intro g
  rcases h.m1 _ g with ⟨u, h1, h2⟩ | g2
  ·obtain ⟨_, _, h3⟩ := leaves_iff.1 h2
   rw [Int.toNat_natCast] at h3
   omega
  ·rw [hq, Int.toNat_natCast] at g2
   rw [hq]; exact g2
 ·intro g
  exact h.m2 _ (by rw [hq, Int.toNat_natCast]; rw [hq] at g; exact g)
theorem EInv.twice (h : EInv fr ds v row rest T i res) (hi : i < row.length) (hl : leaves fr v (gi row i) = true) (hm : gi row i ∈ row.take i) : res = ((v : Int), 112) := by
 rw [← h.res, drop_int hi, elems_cons_twice hl ((h.seen hi hl).2 hm)]; rfl
theorem EInv.step (h : EInv fr ds v row rest T i res) (hi : i < row.length) (hl : leaves fr v (gi row i) = true) (hm : gi row i ∉ row.take i) : EInv fr ds v row rest (T.set (gi row i).toNat true) (i + 1) res := by
 obtain ⟨l1, l2, l3⟩ := leaves_iff.1 hl
 have hs : gb T (gi row i).toNat = false := by
  cases e : gb T (gi row i).toNat with
  | false => rfl
  | true => exact absurd ((h.seen hi hl).1 e) hm
 have hlen := h.len
 refine ⟨by rw [List.length_set]; exact h.len, fun j hj => ?_, ?_, fun p hp => ?_, fun p hp => ?_, ?_⟩
 ·rcases Nat.lt_succ_iff_lt_or_eq.1 hj with g | rfl
  ·exact h.lv j g
  ·exact hl
 ·rw [take_gi hi, List.nodup_append]
  refine ⟨h.nd, by simp, fun a ha b hb2 => ?_⟩
  rw [List.mem_singleton] at hb2
  rintro rfl
  exact hm (by rw [← hb2]; exact ha)
 ·rw [gb_set] at hp
  rw [take_gi hi]
  by_cases c : (gi row i).toNat = p ∧ p < T.length
  ·right
   rw [show (p : Int) = gi row i by omega]
   simp
  ·rw [if_neg c] at hp
   rcases h.m1 p hp with g | g
   ·exact .inl g
   ·exact .inr (List.mem_append_left _ g)
 ·rw [take_gi hi, List.mem_append, List.mem_singleton] at hp
  rw [gb_set]
  by_cases c : (gi row i).toNat = p ∧ p < T.length
  ·rw [if_pos c]
  ·rw [if_neg c]
   rcases hp with g | g
   ·exact h.m2 p g
   ·exact absurd ⟨by omega, by omega⟩ c
 ·rw [← h.res, drop_int hi, elems_cons hl hs]
theorem EInv.lvs (h : EInv fr ds v row rest T row.length res) : ∀ x ∈ row, leaves fr v x = true := by
 intro x hx
 obtain ⟨j, hj, rfl⟩ := mem_gi2 hx
 exact h.lv j hj
theorem EInv.le (h : EInv fr ds v row rest T row.length res) : row.length ≤ cntF fr fr.length v := by
 have h1 := h.nd
 rw [List.take_length] at h1
 have := nodup_subset row (leaving fr v) h1 (fun x hx => mem_leaving.2 (h.lvs x hx))
 rw [leaving_cntF] at this
 exact this
theorem EInv.few (h : EInv fr ds v row rest T row.length res) (hd : gi ds v = ((cntF fr fr.length v : Nat) : Int)) (hlt : row.length < cntF fr fr.length v) : res = ((v : Int), 113) := by
 have h1 := h.res
 rw [List.drop_length, show elems fr v [] T = .ok T from rfl, after_ok, if_neg (by omega)] at h1
 exact h1.symm
theorem EInv.done (h : EInv fr ds v row rest T row.length res) (hd : gi ds v = ((cntF fr fr.length v : Nat) : Int)) (hlt : ¬ row.length < cntF fr fr.length v) : T.length = fr.length ∧ (∀ q : Nat, gb T q = true → ∃ u, u < v + 1 ∧ leaves fr u (q : Int) = true) ∧ rows fr ds (v + 1) rest T = res := by
 have h1 := h.res
 have h2 := h.le
 rw [List.drop_length, show elems fr v [] T = .ok T from rfl, after_ok, if_pos (by omega)] at h1
 refine ⟨h.len, fun q hq => ?_, h1⟩
 rcases h.m1 q hq with ⟨u, a, b⟩ | g
 ·exact ⟨u, by omega, b⟩
 ·rw [List.take_length] at g
  exact ⟨v, by omega, h.lvs _ g⟩
theorem EInv.start {S : List Bool} (h1 : S.length = fr.length) (h2 : ∀ q : Nat, gb S q = true → ∃ u, u < v ∧ leaves fr u (q : Int) = true) (h3 : rows fr ds v (row :: rest) S = res) : EInv fr ds v row rest S 0 res :=
 ⟨h1, fun j hj => absurd hj (by omega), by simp, fun q hq => .inl (h2 q hq), fun q hq => by simp at hq, by rw [List.drop_zero, ← rows_cons]; exact h3⟩
end
def degs (es : List (Int × Int)) (n : Nat) : List Int := (List.range n).map fun (v : Nat) => ((cntF (froms es) (2 * es.length) (v : Int) : Nat) : Int)
theorem gi_degs {es : List (Int × Int)} {n v : Nat} (h : v < n) : gi (degs es n) v = ((cntF (froms es) (froms es).length (v : Int) : Nat) : Int) := by
 unfold gi degs
 rw [froms_length]
 simp [List.getD_eq_getElem?_getD, h]
def checkR (n : Int) (es : List (Int × Int)) (r : List (List Int)) : Int × Int :=
 if ValH.goodB n es = true then (if (r.length : Int) = n then rows (froms es) (degs es n.toNat) 0 r (List.replicate (2 * es.length) false) else (0, 110)) else (0, 1)
end Graph
namespace Rot
open GAll Mem
theorem setRow_at {row nx : List Int} (hin : ∀ j, j < row.length → (gi row j).toNat < nx.length) (hinj : ∀ i j, i < row.length → j < row.length → (gi row i).toNat = (gi row j).toNat → i = j) : ∀ i, i ≤ row.length →
  (∀ j, j < i → gi (Graph.setRow row nx i) (gi row j).toNat = gi row ((j + 1) % row.length)) ∧ ∀ x, (∀ j, j < i → (gi row j).toNat ≠ x) → gi (Graph.setRow row nx i) x = gi nx x
 | 0, _ => ⟨fun j h => absurd h (by omega), fun x _ => rfl⟩
 | i + 1, hi => by
  obtain ⟨h1, h2⟩ := setRow_at hin hinj i (by omega)
  have hl : (Graph.setRow row nx i).length = nx.length := Graph.setRow_length row nx i
  constructor
  ·intro j hj
   show gi ((Graph.setRow row nx i).set (gi row i).toNat (gi row ((i + 1) % row.length))) _ = _
   rw [gi_set]
   by_cases e : (gi row i).toNat = (gi row j).toNat
   ·obtain rfl := hinj i j (by omega) (by omega) e
    rw [if_pos ⟨rfl, by rw [hl]; exact hin i (by omega)⟩]
   ·rw [if_neg (fun q => e q.1)]
    exact h1 j (by rcases Nat.lt_or_eq_of_le (Nat.le_of_lt_succ hj) with q | rfl; exact q; exact absurd rfl e)
  ·intro x hx
   show gi ((Graph.setRow row nx i).set (gi row i).toNat (gi row ((i + 1) % row.length))) _ = _
   rw [gi_set, if_neg (fun q => hx i (by omega) q.1)]
   exact h2 x (fun j hj => hx j (by omega))
theorem setRows_at {fr : List Int} {n : Nat} {r : List (List Int)} (h : IsRot fr n r) : ∀ v, v ≤ n → ∀ u, u < v → ∀ j, j < (gl r u).length → gi (Graph.setRows r fr.length v) (gi (gl r u) j).toNat = gi (gl r u) ((j + 1) % (gl r u).length)
 | 0, _, u, hu, _, _ => absurd hu (by omega)
 | v + 1, hv, u, hu, j, hj => by
  have ih := setRows_at h v (by omega)
  have key := setRow_at (row := gl r v) (nx := Graph.setRows r fr.length v) (fun i hi => by
   rw [Graph.setRows_length]
   obtain ⟨a, b, _⟩ := h.at (show v < n by omega) hi
   omega) (fun i i2 hi hi2 e => (h.inj (by omega) (by omega) hi hi2 e).2) (gl r v).length (Nat.le_refl _)
  show gi (Graph.setRow (gl r v) (Graph.setRows r fr.length v) (gl r v).length) _ = _
  by_cases e : u = v
  ·subst e
   exact key.1 j hj
  ·rw [key.2 _ (fun i hi q => e (h.inj (show v < n by omega) (show u < n by omega) hi hj q).1.symm)]
   exact ih u (by omega) j hj
theorem nextOf_nxL {fr : List Int} {n : Nat} {r : List (List Int)} (h : IsRot fr n r) : NextOf r fr.length (Graph.nxL r fr.length) := by
 refine ⟨Graph.setRows_length r fr.length r.length, fun v hv j hj => ?_⟩
 unfold Graph.nxL
 exact setRows_at h r.length (by rw [h.len]; exact Nat.le_refl _) v hv j hj
theorem row_len {fr : List Int} {n : Nat} {r : List (List Int)} (h : IsRot fr n r) {v : Nat} (hv : v < n) : (gl r v).length = cnt fr fr.length v := by
 have h1 := nodup_subset (gl r v) (leaving fr v) (h.nodup v hv) (fun x hx => mem_leaving.2 ((h.mem v hv x).1 hx))
 have h2 := nodup_subset (leaving fr v) (gl r v) (leaving_nodup fr v) (fun x hx => (h.mem v hv x).2 (mem_leaving.1 hx))
 rw [leaving_cnt] at h1 h2
 omega
theorem next_in {fr : List Int} {n : Nat} {r : List (List Int)} {nx : List Int} (h : IsRot fr n r) (hx : NextOf r fr.length nx) (hf : ∀ x, x < fr.length → 0 ≤ gi fr x ∧ gi fr x < n) {x : Nat} (hh : x < fr.length) : 0 ≤ gi nx x ∧ gi nx x < (fr.length : Int) ∧ gi fr (gi nx x).toNat = gi fr x := by
 obtain ⟨v, j, h1, h2, h3, h4⟩ := h.place hf hh
 have := hx.2 v (by rw [h.len]; exact h1) j h3
 rw [h4, Int.toNat_natCast] at this
 have q := h.at h1 (Nat.mod_lt (j + 1) (show 0 < (gl r v).length by omega))
 rw [this, h2]
 exact q
section
variable {n : Nat} {l : List Ed} {r : List (List Int)}
abbrev nxOf (l : List Ed) (r : List (List Int)) : List Int := Graph.nxL r (2 * l.length)
theorem nxOf_next (h : IsRot (frs l) n r) : NextOf r (frs l).length (nxOf l r) := by
 have := nextOf_nxL h
 rw [frs_length] at this ⊢
 exact this
theorem frs_in (hg : PureV.Good (n : Int) l) : ∀ x, x < (frs l).length → 0 ≤ gi (frs l) x ∧ gi (frs l) x < (n : Int) := fun x hx => frs_range hg (by rw [frs_length] at hx; exact hx)
theorem degs_of {ds : List Int} (hd : ds.length = n) (hv : ∀ v, v < n → gi ds v = ((leaving (frs l) v).length : Int)) : ds = Graph.degs (ends l) n := by
 have hl : (Graph.degs (ends l) n).length = n := by unfold Graph.degs; simp
 refine List.ext_getElem (by rw [hd, hl]) (fun v h1 h2 => ?_)
 have a := hv v (by omega)
 have b := Graph.gi_degs (es := ends l) (n := n) (v := v) (by omega)
 rw [leaving_cnt] at a
 have c : gi ds v = gi (Graph.degs (ends l) n) v := by rw [a, b]; rfl
 unfold gi at c
 rw [List.getD_eq_getElem?_getD, List.getD_eq_getElem?_getD, List.getElem?_eq_getElem h1, List.getElem?_eq_getElem h2] at c
 exact c
end
end Rot
namespace GAll
def rot_Next.fit (m : Nat) (r : List (List Int)) : Bool := decide (m ≤ 4194304) && (decide (r.length ≤ 1048576) && r.all fun row => decide (row.length ≤ 8388608) && row.all fun h => decide (0 ≤ h ∧ h < ((2 * m : Nat) : Int)))
def rot_Next.f (k : Nat) (a0_0 : Int) (l0_1 : List S41) (l1 : List (List Int)) : Option (List Int × Int) := (rot_Check.f k a0_0 l0_1 l1).bind fun t => if t.2 = 0 then (if rot_Next.fit l0_1.length l1 = true then some (Graph.nxL l1 (2 * l0_1.length), 0) else none) else some ([], t.2)
theorem rot_Next.mono : ∀ a0 a1 a2 k, LeO (rot_Next.f k a0 a1 a2) (rot_Next.f (k + 1) a0 a1 a2) := by
 intro a0 a1 a2 k
 unfold rot_Next.f
 exact LeO.bind (rot_Check.mono _ _ _ _) (fun _ => LeO.refl _)
theorem rot_Next.at_ {m : Nat} {r : List (List Int)} (h : rot_Next.fit m r = true) : m ≤ 4194304 ∧ r.length ≤ 1048576 ∧ (∀ v, v < r.length → (Mem.gl r v).length ≤ 8388608) ∧ ∀ v i, v < r.length → i < (Mem.gl r v).length → 0 ≤ Mem.gi (Mem.gl r v) i ∧ Mem.gi (Mem.gl r v) i < ((2 * m : Nat) : Int) := by
 unfold rot_Next.fit at h
 rw [Bool.and_eq_true, Bool.and_eq_true, List.all_eq_true, decide_eq_true_eq, decide_eq_true_eq] at h
 have hm : ∀ v, v < r.length → Mem.gl r v ∈ r := fun v hv => by
  unfold Mem.gl
  rw [List.getD_eq_getElem?_getD, List.getElem?_eq_getElem hv]
  exact List.getElem_mem hv
 refine ⟨h.1, h.2.1, fun v hv => ?_, fun v i hv hi => ?_⟩
 ·have h2 := h.2.2 _ (hm v hv)
  rw [Bool.and_eq_true, decide_eq_true_eq] at h2
  exact h2.1
 ·have h2 := h.2.2 _ (hm v hv)
  rw [Bool.and_eq_true, List.all_eq_true] at h2
  have h3 : Mem.gi (Mem.gl r v) i ∈ Mem.gl r v := by
   unfold Mem.gi
   rw [List.getD_eq_getElem?_getD, List.getElem?_eq_getElem hi]
   exact List.getElem_mem hi
  exact of_decide_eq_true (h2.2 _ h3)
theorem rot_Next.calls (k : Nat) (a0_0 : Int) (A0_1 : Option Addr) (c0_1 : Nat) (l0_1 : List (S41)) (A1 : Option Addr) (c1 : Nat) (l1 : List (List Int)) (r1 : List Int) (r2 : Int) (w : World) (hr0_1 : Kd.C k41 w A0_1 l0_1.length l0_1) (hc0_1 : l0_1.length ≤ c0_1) (hr1 : Kd.C (Kd.slice 3 (Kd.int .i64)) w A1 l1.length l1) (hc1 : l1.length ≤ c1) (h : rot_Next.f k a0_0 l0_1 l1 = some (r1, r2)) :
  Calls Try.prog 46 #[.agg #[.int .i64 a0_0, .slice A0_1 l0_1.length c0_1], .slice A1 l1.length c1] w fun e w' => ∃ v0_ : Value, e = .returned (.tuple #[v0_, .int .i64 r2]) ∧ Kd.R (Kd.int .i64) 3 w' w.heap.size (fun _ => True) v0_ r1 ∧ Below w.heap.size w w' := by
 obtain ⟨⟨v0, e0⟩, ht, h⟩ := Option.bind_eq_some_iff.mp h
 have hck : ∀ W : World, Below w.heap.size w W → Calls Try.prog 43 #[.agg #[.int .i64 a0_0, .slice A0_1 l0_1.length c0_1], .slice A1 l1.length c1] W fun e w' => e = .returned (.tuple #[.int .i64 v0, .int .i64 e0]) ∧ Below W.heap.size W w' :=
  fun W hW => rot_Check.calls k a0_0 A0_1 c0_1 l0_1 A1 c1 l1 v0 e0 W (Kd.C_below hr0_1 hW) hc0_1 (Kd.C_below hr1 hW) hc1 ht
 by_cases he : e0 = 0
 ·subst he
  rw [if_pos rfl] at h
  by_cases hf : rot_Next.fit l0_1.length l1 = true
  ·rw [if_pos hf] at h
   obtain ⟨g1, g2, g3, g4⟩ := rot_Next.at_ hf
   obtain ⟨rfl, rfl⟩ : Graph.nxL l1 (2 * l0_1.length) = r1 ∧ 0 = r2 := by simpa using h
   exact Graph.next_ok a0_0 A0_1 l0_1.length c0_1 A1 c1 l1 v0 w hr1 g1 g4 (fun v hv => Nat.le_trans (g3 v hv) (by decide)) (Nat.le_trans g2 (by decide)) hck
  ·rw [if_neg hf] at h; cases h
 ·rw [if_neg he] at h
  obtain ⟨rfl, rfl⟩ : ([] : List Int) = r1 ∧ e0 = r2 := by simpa using h
  exact Graph.next_bad a0_0 A0_1 l0_1.length c0_1 A1 l1.length c1 v0 e0 he w hck
end GAll
namespace GAll
theorem comps_Of.pairs {w : World} {A : Option Addr} {l : List S41} (h : Kd.C k41 w A l.length l) : Sets.Pairs w A (l.map fun x => (x.f0, x.f1)) := by
 intro i hi
 rw [List.length_map] at hi
 obtain ⟨ad, e, h1, h2⟩ := at_T41 h (i : Int) (by omega) (by omega)
 have e2 : Sets.pe (l.map fun x => (x.f0, x.f1)) i = ((rd_T41 l (i : Int)).f0, (rd_T41 l (i : Int)).f1) := by
  unfold Sets.pe rd_T41
  simp [List.getD_eq_getElem?_getD, hi]
 rw [e2]
 exact ⟨ad, e, h1, h2⟩
def comps_Of.out (n : Int) (l : List S41) : List Nat × Nat := Sets.numTo (Sets.joinAll (List.range n.toNat) (l.map fun x => (x.f0, x.f1))) n.toNat
def comps_Of.f (k : Nat) (a0_0 : Int) (l0_1 : List S41) : Option (List Int × Int × Int) := (simple_Valid.f k a0_0 l0_1).bind fun t => if t = true then (if 0 ≤ a0_0 ∧ a0_0 ≤ 1048576 then some ((comps_Of.out a0_0 l0_1).1.map (fun (x : Nat) => (x : Int)), (((comps_Of.out a0_0 l0_1).2 : Nat) : Int), 0) else none) else some ([], 0, 1)
theorem comps_Of.mono : ∀ a0 a1 k, LeO (comps_Of.f k a0 a1) (comps_Of.f (k + 1) a0 a1) := by
 intro a0 a1 k
 unfold comps_Of.f
 exact LeO.bind (simple_Valid.mono _ _ _) (fun _ => LeO.refl _)
theorem comps_Of.calls (k : Nat) (a0_0 : Int) (A0_1 : Option Addr) (c0_1 : Nat) (l0_1 : List (S41)) (r1 : List Int) (r2 : Int) (r3 : Int) (w : World) (hr0_1 : Kd.C k41 w A0_1 l0_1.length l0_1) (hc0_1 : l0_1.length ≤ c0_1) (h : comps_Of.f k a0_0 l0_1 = some (r1, r2, r3)) :
  Calls Try.prog 63 #[.agg #[.int .i64 a0_0, .slice A0_1 l0_1.length c0_1]] w fun e w' => ∃ v0_ : Value, e = .returned (.tuple #[v0_, .int .i64 r2, .int .i64 r3]) ∧ Kd.R (Kd.int .i64) 3 w' w.heap.size (fun _ => True) v0_ r1 ∧ Below w.heap.size w w' := by
 obtain ⟨t, ht, h⟩ := Option.bind_eq_some_iff.mp h
 cases t with
 | false =>
  rw [if_neg (by decide)] at h
  obtain ⟨rfl, rfl, rfl⟩ : [] = r1 ∧ 0 = r2 ∧ 1 = r3 := by simpa using h
  have hv : Sets.SaysNo a0_0 A0_1 l0_1.length c0_1 w := fun W hW => simple_Valid.calls k a0_0 A0_1 c0_1 l0_1 false W (Kd.C_below hr0_1 hW) hc0_1 ht
  exact (Sets.of_no a0_0 A0_1 l0_1.length c0_1 w hv).mono fun e w' ⟨h1, h2⟩ => ⟨_, h1, Kd.R_nil _ _ _ _ _, h2⟩
 | true =>
  rw [if_pos rfl] at h
  by_cases hn : 0 ≤ a0_0 ∧ a0_0 ≤ 1048576
  ·rw [if_pos hn] at h
   obtain ⟨n, rfl⟩ := Int.eq_ofNat_of_zero_le hn.1
   have hn3 : n ≤ 1048576 := Int.ofNat_le.1 hn.2
   have ho : comps_Of.out (n : Int) l0_1 = Sets.numTo (Sets.joinAll (List.range n) (l0_1.map fun x => (x.f0, x.f1))) n := by unfold comps_Of.out; rw [Int.toNat_natCast]
   rw [ho] at h
   have hv : Sets.SaysYes (n : Int) A0_1 (l0_1.map fun x => (x.f0, x.f1)).length c0_1 w := fun W hW => by
    rw [List.length_map]; exact simple_Valid.calls k _ A0_1 c0_1 l0_1 true W (Kd.C_below hr0_1 hW) hc0_1 ht
   have hl : (l0_1.map fun x => (x.f0, x.f1)).length ≤ 9223372036854775807 := by rw [List.length_map]; exact Sets.C_le hr0_1
   have hc := Sets.of_yes n A0_1 c0_1 (l0_1.map fun x => (x.f0, x.f1)) w
   have hc := hc hv
   have hc := hc hn3 (comps_Of.pairs hr0_1) hl
   rw [List.length_map] at hc
   refine hc.mono fun e w' ⟨bo, h1, h2, h3, h4⟩ => ?_
   simp only [Option.some.injEq, Prod.mk.injEq] at h
   obtain ⟨rfl, rfl, rfl⟩ := h
   have hn2 := Sets.numTo_length (Sets.joinAll (List.range n) (l0_1.map fun x => (x.f0, x.f1))) n
   have hr := Sets.row_own (ok := fun _ => True) h3 h2 (by rw [hn2]; exact Nat.le_trans hn3 (by decide)) trivial
   rw [hn2] at hr
   exact ⟨_, h1, hr, h4⟩
  ·rw [if_neg hn] at h; cases h
end GAll
namespace Rot
open GAll Mem
def Small (r : List (List Int)) : Prop := r.length * 24 ≤ 140737488351232 ∧ ∀ l ∈ r, l.length * 8 ≤ 140737488351232
theorem Small.all {r : List (List Int)} (h : Small r) : (r.all fun row => decide (row.length * 8 ≤ 140737488351232)) = true := by
 rw [List.all_eq_true]
 exact fun x hx => decide_eq_true (h.2 x hx)
structure IsMap (n : Nat) (l : List Ed) (r : List (List Int)) : Prop where
 good : PureV.Good (n : Int) l
 rot : IsRot (frs l) n r
section
variable {n : Nat} {l : List Ed} {r : List (List Int)}
theorem IsMap.len (h : IsMap n l r) : (nxOf l r).length = 2 * l.length := Graph.setRows_length r _ _
theorem IsMap.rows (h : IsMap n l r) : l.length ≤ 4194304 ∧ r.length ≤ 1048576 ∧ ∀ row ∈ r, row.length ≤ 8388608 ∧ ∀ x ∈ row, 0 ≤ x ∧ x < ((2 * l.length : Nat) : Int) := by
 have h1 := h.good.2.1
 have h2 := h.good.2.2.1
 have h3 := h.rot.len
 refine ⟨h2, by omega, fun row hrow => ?_⟩
 obtain ⟨v, hv, rfl⟩ := List.getElem_of_mem hrow
 have e : r[v] = gl r v := by unfold gl; rw [List.getD_eq_getElem?_getD, List.getElem?_eq_getElem hv]; rfl
 rw [e]
 refine ⟨?_, fun x hx => ?_⟩
 ·rw [row_len h.rot (by omega)]
  have := cnt_le (frs l) (frs l).length v
  have := frs_length l
  omega
 ·have := leaves_iff.1 ((h.rot.mem v (by omega) x).1 hx)
  rw [frs_length] at this
  exact ⟨this.1, this.2.1⟩
theorem next_ev (h : IsMap n l r) (hc : Ev (fun k => rot_Check.f k (n : Int) l r) (0, 0)) : Ev (fun k => rot_Next.f k (n : Int) l r) (nxOf l r, 0) := by
 unfold rot_Next.f
 refine Ev.bind hc (Ev.congr (fun k => if_pos rfl) (Ev.congr (fun k => if_pos ?_) (Ev.now _)))
 obtain ⟨a, b, c⟩ := h.rows
 unfold rot_Next.fit
 rw [Bool.and_eq_true, Bool.and_eq_true, List.all_eq_true, decide_eq_true_eq, decide_eq_true_eq]
 refine ⟨a, b, fun row hrow => ?_⟩
 rw [Bool.and_eq_true, List.all_eq_true, decide_eq_true_eq]
 exact ⟨(c row hrow).1, fun x hx => decide_eq_true ((c row hrow).2 x hx)⟩
theorem the_check (n : Int) (l : List Ed) (r : List (List Int)) : ∃ res, Ev (fun k => rot_Check.f k n l r) res ∧ (res.2 = 0 → res = (0, 0)) ∧ (res.2 = 0 ↔ ∃ N : Nat, n = N ∧ PureV.Good n l ∧ IsRot (frs l) N r) ∧ (¬ PureV.Good n l → res.2 = 1) ∧ (PureV.Good n l → (r.length : Int) ≠ n → res.2 = 110) ∧
  (∀ N : Nat, n = N → PureV.Good n l → r.length = N → res = rows (frs l) (Graph.degs (ends l) N) 0 r (List.replicate (2 * l.length) false)) := by
 obtain ⟨b, hb, _, hg⟩ := PureV.valid n l
 cases b with
 | false =>
  have hG : ¬ PureV.Good n l := fun q => absurd (hg.2 q) (by decide)
  refine ⟨_, check_no hb, fun h => by simp at h, ⟨fun h => by simp at h, ?_⟩, fun _ => rfl, fun q => absurd q hG, fun _ _ q => absurd q hG⟩
  rintro ⟨N, rfl, h, _⟩
  exact absurd h hG
 | true =>
  have hG := hg.1 rfl
  by_cases hl : (r.length : Int) = n
  ·obtain ⟨N, rfl⟩ := Int.eq_ofNat_of_zero_le hG.1
   have hl2 : r.length = N := by omega
   obtain ⟨ds, hd, h1, h2⟩ := degrees_ev hG hb
   have hz := rows_zero (frs l) ds r 0 (List.replicate (frs l).length false)
   refine ⟨_, check_all hG hb hl2 hd h1, fun h => hz.resolve_right (fun q => q h), ⟨fun h => ?_, ?_⟩, fun q => absurd hG q, fun _ q => absurd hl q, fun M e _ _ => ?_⟩
   ·exact ⟨N, rfl, hG, (isRot_of hl2 h2).1 (hz.resolve_right (fun q => q h))⟩
   ·rintro ⟨M, e, _, h⟩
    obtain rfl : N = M := by omega
    rw [(isRot_of hl2 h2).2 h]
   ·obtain rfl : N = M := by omega
    rw [degs_of h1 h2, frs_length]
  ·refine ⟨_, check_len hb hl, fun h => by simp at h, ⟨fun h => by simp at h, ?_⟩, fun q => absurd hG q, fun _ _ => rfl, fun M e _ h => absurd (by omega : (r.length : Int) = n) hl⟩
   rintro ⟨N, rfl, _, h⟩
   exact absurd h.len (by omega)
def parts (n : Nat) (l : List Ed) : Nat := (comps_Of.out (n : Int) l).2
end
end Rot
namespace Rot
open GAll Mem Ring Face
theorem ring_of_mod {f : Nat → Nat} {l : List Nat} (hl : l ≠ []) (h : ∀ j, j < l.length → f (l.getD j 0) = l.getD ((j + 1) % l.length) 0) : Ring f l := by
 cases l with
 | nil => exact absurd rfl hl
 | cons a t =>
  rw [ring_cons]
  unfold Lead
  apply List.ext_getElem
  ·simp
  ·intro i h1 h2
   have hi : i < (a :: t).length := by simpa using h1
   have hh := h i hi
   rw [List.getD_eq_getElem?_getD, List.getD_eq_getElem?_getD, List.getElem?_eq_getElem hi, Option.getD_some] at hh
   rw [List.getElem_map, hh]
   show _ = (t ++ [a])[i]'(by simpa using hi)
   by_cases c : i + 1 < (a :: t).length
   ·rw [Nat.mod_eq_of_lt c, List.getElem?_eq_getElem c, List.getElem_append_left (by simp at c; omega)]
    rfl
   ·have e : (i + 1) % (a :: t).length = 0 := by
     have : i + 1 = (a :: t).length := by omega
     rw [this, Nat.mod_self]
    rw [e, List.getElem_append_right (by simp at c hi ⊢; omega)]
    simp
def fN (l : List Int) : List Nat := l.map Int.toNat
theorem fN_getD (l : List Int) (j : Nat) : (fN l).getD j 0 = (gi l j).toNat := by
 unfold fN gi
 rw [List.getD_eq_getElem?_getD, List.getD_eq_getElem?_getD, List.getElem?_map]
 cases l[j]? <;> rfl
def rowsN (r : List (List Int)) : List (List Nat) := r.map fN
def nxf (l : List Ed) (r : List (List Int)) (h : Nat) : Nat := (gi (nxOf l r) h).toNat
theorem rowsN_get {r : List (List Int)} {i : Nat} (h : i < r.length) {h2 : i < (rowsN r).length} : (rowsN r)[i] = fN (gl r i) := by
 have e : gl r i = r[i] := by unfold gl; rw [List.getD_eq_getElem?_getD, List.getElem?_eq_getElem h]; rfl
 rw [e]
 exact List.getElem_map ..
def full (L : List (List Nat)) : List (List Nat) := L.filter fun l => !l.isEmpty
theorem full_flatten (L : List (List Nat)) : (full L).flatten = L.flatten := by
 induction L with
 | nil => rfl
 | cons a L ih =>
  unfold full at ih ⊢
  cases a with
  | nil => simpa using ih
  | cons x t => simp [ih]
section
variable {n : Nat} {l : List Ed} {r : List (List Int)}
theorem gl_ge {r : List (List Int)} {row : List Int} (h : row ∈ r) : ∃ v, v < r.length ∧ gl r v = row := by
 obtain ⟨v, hv, rfl⟩ := List.getElem_of_mem h
 exact ⟨v, hv, by unfold gl; rw [List.getD_eq_getElem?_getD, List.getElem?_eq_getElem hv]; rfl⟩
theorem gi_get0 {l : List Int} {i : Nat} (h : i < l.length) : gi l i = l[i] := by unfold gi; rw [List.getD_eq_getElem?_getD, List.getElem?_eq_getElem h]; rfl
theorem IsMap.row_at (hm : IsMap n l r) {v : Nat} (hv : v < n) {h : Nat} : h ∈ fN (gl r v) ↔ h < 2 * l.length ∧ gi (frs l) h = (v : Int) := by
 unfold fN
 rw [List.mem_map]
 have hfl := frs_length l
 constructor
 ·rintro ⟨x, hx, rfl⟩
  obtain ⟨a, b, c⟩ := leaves_iff.1 ((hm.rot.mem v hv x).1 hx)
  exact ⟨by omega, c⟩
 ·rintro ⟨a, b⟩
  exact ⟨(h : Int), (hm.rot.mem v hv _).2 (leaves_iff.2 ⟨by omega, by omega, by rw [Int.toNat_natCast]; exact b⟩), by simp⟩
theorem IsMap.row_nodup (hm : IsMap n l r) {v : Nat} (hv : v < n) : (fN (gl r v)).Nodup := by
 have h1 := hm.rot.nodup v hv
 unfold fN
 rw [List.Nodup, List.pairwise_map]
 refine List.Pairwise.imp_of_mem (fun {a b} ha hb hne e => hne ?_) h1
 have := (leaves_iff.1 ((hm.rot.mem v hv a).1 ha)).1
 have := (leaves_iff.1 ((hm.rot.mem v hv b).1 hb)).1
 omega
theorem IsMap.row_ring (hm : IsMap n l r) {v : Nat} (hv : v < n) (h0 : gl r v ≠ []) : Ring (nxf l r) (fN (gl r v)) := by
 have hx := (nxOf_next hm.rot).2
 refine ring_of_mod (by unfold fN; simpa using h0) (fun j hj => ?_)
 have hl : (fN (gl r v)).length = (gl r v).length := by unfold fN; simp
 have := hx v (by rw [hm.rot.len]; exact hv) j (by omega)
 rw [hl, fN_getD, fN_getD]
 unfold nxf
 rw [this]
theorem IsMap.rows_flat (hm : IsMap n l r) : (rowsN r).flatten.Nodup ∧ ∀ h, h ∈ (rowsN r).flatten ↔ h < 2 * l.length := by
 have hlen := hm.rot.len
 constructor
 ·rw [List.Nodup, List.pairwise_flatten]
  constructor
  ·intro L hL
   obtain ⟨row, hrow, rfl⟩ := List.mem_map.1 hL
   obtain ⟨v, hv, rfl⟩ := gl_ge hrow
   exact hm.row_nodup (by omega)
  ·rw [List.pairwise_iff_getElem]
   intro i j hi hj hij x hx y hy e
   subst e
   have hi2 : i < r.length := by simpa [rowsN] using hi
   have hj2 : j < r.length := by simpa [rowsN] using hj
   have e1 : (rowsN r)[i] = fN (gl r i) := rowsN_get hi2
   have e2 : (rowsN r)[j] = fN (gl r j) := rowsN_get hj2
   rw [e1] at hx
   rw [e2] at hy
   have h1 := (hm.row_at (by omega)).1 hx
   have h2 := (hm.row_at (by omega)).1 hy
   have : ((i : Int)) = (j : Int) := h1.2.symm.trans h2.2
   omega
 ·intro h
  rw [List.mem_flatten]
  constructor
  ·rintro ⟨L, hL, hh⟩
   obtain ⟨row, hrow, rfl⟩ := List.mem_map.1 hL
   obtain ⟨v, hv, rfl⟩ := gl_ge hrow
   exact ((hm.row_at (by omega)).1 hh).1
  ·intro hh
   have hf := frs_range hm.good hh
   obtain ⟨v, hv⟩ := Int.eq_ofNat_of_zero_le hf.1
   have hvn : v < n := by omega
   refine ⟨fN (gl r v), List.mem_map.2 ⟨gl r v, ?_, rfl⟩, (hm.row_at hvn).2 ⟨hh, hv⟩⟩
   unfold gl
   rw [List.getD_eq_getElem?_getD, List.getElem?_eq_getElem (by omega)]
   exact List.getElem_mem _
theorem IsMap.dec (hm : IsMap n l r) : Dec (nxf l r) (full (rowsN r)) ∧ (full (rowsN r)).flatten.Perm (List.range (2 * l.length)) := by
 obtain ⟨h1, h2⟩ := hm.rows_flat
 refine ⟨⟨fun L hL => ?_, by rw [full_flatten]; exact h1⟩, ?_⟩
 ·unfold full at hL
  rw [List.mem_filter] at hL
  obtain ⟨row, hrow, rfl⟩ := List.mem_map.1 hL.1
  obtain ⟨v, hv, rfl⟩ := gl_ge hrow
  refine hm.row_ring (by have := hm.rot.len; omega) (fun e => ?_)
  rw [e] at hL
  simp [fN] at hL
 ·rw [full_flatten]
  exact perm_of_same h1 List.nodup_range (fun x => by rw [h2, List.mem_range])
theorem IsMap.nxf_eq (hm : IsMap n l r) {h : Nat} (hh : h < 2 * l.length) : gi (nxOf l r) h = (nxf l r h : Int) := by
 have := next_in hm.rot (nxOf_next hm.rot) (frs_in hm.good) (x := h) (by rw [frs_length]; exact hh)
 unfold nxf
 omega
theorem twn_lt {h m : Nat} (hh : h < 2 * m) : twn h < 2 * m := by unfold twn; split <;> omega
theorem tw_twn {h : Nat} (hh : h ≤ 9000000) : Go.bits .xor .i64 (h : Int) 1 = (twn h : Int) := Seen.tw_nat hh
def stf (l : List Ed) (r : List (List Int)) : Nat → Nat := upTo (nxf l r) l.length
theorem stf_eq {h : Nat} (hh : h < 2 * l.length) : stf l r h = nxf l r (twn h) := if_pos hh
def stOf (l : List Ed) (r : List (List Int)) : List Int := (List.range (2 * l.length)).map fun h => gi (nxOf l r) (twn h)
theorem stOf_length : (stOf l r).length = 2 * l.length := by unfold stOf; simp
theorem gi_stOf {h : Nat} (hh : h < 2 * l.length) : gi (stOf l r) h = gi (nxOf l r) (twn h) := by
 unfold stOf gi
 simp [List.getD_eq_getElem?_getD, hh]
theorem IsMap.even (hm : IsMap n l r) : ∀ e, 2 * e ∈ (full (rowsN r)).flatten ↔ 2 * e + 1 ∈ (full (rowsN r)).flatten := by
 intro e
 rw [full_flatten, hm.rows_flat.2, hm.rows_flat.2]
 omega
theorem IsMap.steps (hm : IsMap n l r) : Face.Steps (stf l r) (stOf l r) := by
 obtain ⟨h1, h2⟩ := hm.dec
 obtain ⟨L', d1, d2, _⟩ := parity h1 hm.even l.length
 have hp := d2.trans h2
 have mem : ∀ i, i < 2 * l.length ↔ i ∈ L'.flatten := fun i => by rw [hp.mem_iff, List.mem_range]
 refine ⟨fun i hi => ?_, fun i hi => ?_, fun i j hi hj e => ?_⟩
 ·rw [stOf_length] at hi
  rw [gi_stOf hi, hm.nxf_eq (twn_lt hi), stf_eq hi]
 ·rw [stOf_length] at hi ⊢
  exact (mem _).2 (d1.closed ((mem i).1 hi))
 ·rw [stOf_length] at hi hj
  exact d1.inj i ((mem i).1 hi) j ((mem j).1 hj) e
theorem IsMap.faces (hm : IsMap n l r) : ∃ F, facesL (stOf l r) = F.map zN ∧ Faces (stf l r) (2 * l.length) F := by
 have := facesL_spec hm.steps
 rw [stOf_length] at this
 exact this
end
end Rot
namespace GAll
def tangramref01_SameInts.l0 : Nat → List Int → List Int → Int → Option (Bool)
 | 0, _, _, _ => none
 | k + 1, x0, x1, x5 => if x5 < (x0.length : Int) then (if 0 ≤ x5 then (if x5 < (x1.length : Int) then (if (rd x0 x5) = (rd x1 x5) then (tangramref01_SameInts.l0 k x0 x1 (wrap64 (x5 + 1))) else (some false)) else (none)) else (none)) else (some true)
def tangramref01_SameInts.f (k : Nat) (l0 : List Int) (l1 : List Int) : Option (Bool) := if (l0.length : Int) = (l1.length : Int) then (tangramref01_SameInts.l0 k l0 l1 0) else (some false)
theorem tangramref01_SameInts.mono_l : ∀ k, (∀ y0 y1 y2, LeO (tangramref01_SameInts.l0 k y0 y1 y2) (tangramref01_SameInts.l0 (k + 1) y0 y1 y2))
 | 0 => fun _ _ _ r h => by simp [tangramref01_SameInts.l0] at h
 | k + 1 => by
  have ih0 := tangramref01_SameInts.mono_l k
  ·intro y0 y1 y2
   unfold tangramref01_SameInts.l0
   repeat' first
   | (with_reducible exact ih0 _ _ _)
   | (with_reducible exact LeO.refl _)
   | (with_reducible exact LeO.none _)
   | (with_reducible refine LeO.ite ?_ ?_)
   | (with_reducible refine LeO.bind ?_ (fun _ => ?_))
theorem tangramref01_SameInts.mono : ∀ a0 a1 k, LeO (tangramref01_SameInts.f k a0 a1) (tangramref01_SameInts.f (k + 1) a0 a1) := by
 intro a0 a1 k
 have ih0 := tangramref01_SameInts.mono_l k
 unfold tangramref01_SameInts.f
 repeat' first
   | (with_reducible exact ih0 _ _ _)
   | (with_reducible exact LeO.refl _)
   | (with_reducible exact LeO.none _)
   | (with_reducible refine LeO.ite ?_ ?_)
   | (with_reducible refine LeO.bind ?_ (fun _ => ?_))
theorem tangramref01_SameInts.calls (k : Nat) (A0 : Option Addr) (c0 : Nat) (l0 : List Int) (A1 : Option Addr) (c1 : Nat) (l1 : List Int) (r : Bool) (w : World) (hr0 : Kd.C (Kd.int .i64) w A0 l0.length l0) (hc0 : l0.length ≤ c0) (hr1 : Kd.C (Kd.int .i64) w A1 l1.length l1) (hc1 : l1.length ≤ c1) (h : tangramref01_SameInts.f k l0 l1 = some r) :
  Calls Try.prog 21 #[.slice A0 l0.length c0, .slice A1 l1.length c1] w fun e w' => e = .returned (.bool r) ∧ Drawn0 w w' := by
 have HR0 := Aside0.mk hr0
 have HC0 := Aside0.mk hc0
 clear hr0 hc0
 have HR1 := Aside0.mk hr1
 have HC1 := Aside0.mk hc1
 clear hr1 hc1
 have H : (if (l0.length : Int) = (l1.length : Int) then (tangramref01_SameInts.l0 k l0 l1 0) else (some false)) = some r := h
 clear h
 by_cases c3 : (l0.length : Int) = (l1.length : Int)
 ·rw [if_pos c3] at H
  have c3b0 : ((l0.length : Int) == (l1.length : Int)) = true := beq_iff_eq.mpr c3
  have c3b1 : ((l0.length : Int) != (l1.length : Int)) = false := bne_eq_false_iff_eq.mpr c3
  have c3b2 : (l0.length == l1.length) = true := by first | simpa using c3 | (simp at c3 ⊢; omega)
  clear c3
  have H' := Aside0.mk H
  clear H
  go_enter Try.func21, Try.ntmps21
  go_wp2
  repeat (go_quiet (fail); try go_wp2)
  go_loopg [5] k (fun kq v5 w' => ∃ (x5_1 : Int), v5 = .int .i64 x5_1 ∧ Aside0 (tangramref01_SameInts.l0 kq l0 l1 x5_1 = some r) ∧ Aside0 (kq ≤ k) ∧ Drawn0 w w')
  case atStart => exact ⟨(0), an9, H', ⟨Nat.le_refl _⟩, by repeat (first | exact Drawn0.refl _ | apply Drawn0.step)⟩
  case round =>
   clear H'
   try clear c1
   try clear c2
   try clear p2
   try clear c3
   try clear c3b0
   try clear c3b1
   try clear c3b2
   obtain ⟨x5_1, rfl, HA, HK1, ⟨m1, rfl⟩⟩ := hrel
   cases gk with
   | zero => exact absurd HA.out (by simp [tangramref01_SameInts.l0])
   | succ k1 =>
    have H := HA.out
    clear HA
    simp only [tangramref01_SameInts.l0] at H
    by_cases c4 : x5_1 < (l0.length : Int)
    ·rw [if_pos c4] at H
     have c4b0 : decide (x5_1 < (l0.length : Int)) = true := decide_eq_true c4
     clear c4
     by_cases c5 : 0 ≤ x5_1
     ·rw [if_pos c5] at H
      have c5b0 : decide (0 ≤ x5_1) = true := decide_eq_true c5
      clear c5
      by_cases c6 : x5_1 < (l1.length : Int)
      ·rw [if_pos c6] at H
       have c6b0 : decide (x5_1 < (l1.length : Int)) = true := decide_eq_true c6
       clear c6
       by_cases c7 : (rd l0 x5_1) = (rd l1 x5_1)
       ·rw [if_pos c7] at H
        have c7b0 : ((rd l0 x5_1) == (rd l1 x5_1)) = true := beq_iff_eq.mpr c7
        have c7b1 : ((rd l0 x5_1) != (rd l1 x5_1)) = false := bne_eq_false_iff_eq.mpr c7
        clear c7
        have H' := Aside0.mk H
        clear H
        have p187 : 0 ≤ (x5_1 : Int) := od9
        have q187 : x5_1 < (l0.length : Int) := od9
        obtain ⟨ad187, e187, hx187_0⟩ := Kd.at_int HR0.out x5_1 p187 q187
        cases e187
        replace p187 := eq_true p187
        replace q187 := eq_true q187
        have p188 : 0 ≤ (x5_1 : Int) := od9
        have q188 : x5_1 < (l1.length : Int) := od9
        obtain ⟨ad188, e188, hx188_0⟩ := Kd.at_int HR1.out x5_1 p188 q188
        cases e188
        replace p188 := eq_true p188
        replace q188 := eq_true q188
        go_wp2
        repeat (go_quiet (fail); try go_wp2)
        go_roundg k1
        case measure => have := HK1.out; omega
        case rel => exact ⟨(wrap64 (x5_1 + 1)), an9, H', ⟨by have := HK1.out; omega⟩, by repeat (first | exact Drawn0.refl _ | apply Drawn0.step)⟩
       ·rw [if_neg c7] at H
        have c7b0 : ((rd l0 x5_1) == (rd l1 x5_1)) = false := beq_eq_false_iff_ne.mpr c7
        have c7b1 : ((rd l0 x5_1) != (rd l1 x5_1)) = true := bne_iff_ne.mpr c7
        obtain rfl := Option.some.inj H
        have p187 : 0 ≤ (x5_1 : Int) := od9
        have q187 : x5_1 < (l0.length : Int) := od9
        obtain ⟨ad187, e187, hx187_0⟩ := Kd.at_int HR0.out x5_1 p187 q187
        cases e187
        replace p187 := eq_true p187
        replace q187 := eq_true q187
        have p188 : 0 ≤ (x5_1 : Int) := od9
        have q188 : x5_1 < (l1.length : Int) := od9
        obtain ⟨ad188, e188, hx188_0⟩ := Kd.at_int HR1.out x5_1 p188 q188
        cases e188
        replace p188 := eq_true p188
        replace q188 := eq_true q188
        go_wp2
        repeat (go_quiet (fail); try go_wp2)
        go_ret
        exact ⟨by first | rfl | (simp; done) | (simp [*]; done), by repeat (first | exact Drawn0.refl _ | apply Drawn0.step)⟩
      ·rw [if_neg c6] at H
       exact absurd H (by simp)
     ·rw [if_neg c5] at H
      exact absurd H (by simp)
    ·rw [if_neg c4] at H
     have c4b0 : decide (x5_1 < (l0.length : Int)) = false := decide_eq_false c4
     clear c4
     obtain rfl := Option.some.inj H
     go_wp2
     repeat (go_quiet (fail); try go_wp2)
     go_ret
     exact ⟨by first | rfl | (simp; done) | (simp [*]; done), by repeat (first | exact Drawn0.refl _ | apply Drawn0.step)⟩
 ·rw [if_neg c3] at H
  have c3b0 : ((l0.length : Int) == (l1.length : Int)) = false := beq_eq_false_iff_ne.mpr c3
  have c3b1 : ((l0.length : Int) != (l1.length : Int)) = true := bne_iff_ne.mpr c3
  have c3b2 : (l0.length == l1.length) = false := by first | simpa using c3 | (simp at c3 ⊢; omega)
  obtain rfl := Option.some.inj H
  go_enter Try.func21, Try.ntmps21
  go_wp2
  repeat (go_quiet (fail); try go_wp2)
  go_ret
  exact ⟨by first | rfl | (simp; done) | (simp [*]; done), by repeat (first | exact Drawn0.refl _ | apply Drawn0.step)⟩
end GAll
namespace GAll
def tangramref01_SameLists.l0 : Nat → List (List Int) → List (List Int) → Int → Option (Bool)
 | 0, _, _, _ => none
 | k + 1, x0, x1, x5 => if x5 < (x0.length : Int) then (if 0 ≤ x5 then (if x5 < (x1.length : Int) then ((tangramref01_SameInts.f k (rd_L2 x0 x5) (rd_L2 x1 x5)).bind fun t191 => (if t191 = true then (tangramref01_SameLists.l0 k x0 x1 (wrap64 (x5 + 1))) else (some false))) else (none)) else (none)) else (some true)
def tangramref01_SameLists.f (k : Nat) (l0 : List (List Int)) (l1 : List (List Int)) : Option (Bool) := if (l0.length : Int) = (l1.length : Int) then (tangramref01_SameLists.l0 k l0 l1 0) else (some false)
theorem tangramref01_SameLists.mono_l : ∀ k, (∀ y0 y1 y2, LeO (tangramref01_SameLists.l0 k y0 y1 y2) (tangramref01_SameLists.l0 (k + 1) y0 y1 y2))
 | 0 => fun _ _ _ r h => by simp [tangramref01_SameLists.l0] at h
 | k + 1 => by
  have ih0 := tangramref01_SameLists.mono_l k
  ·intro y0 y1 y2
   unfold tangramref01_SameLists.l0
   repeat' first
   | (with_reducible exact ih0 _ _ _)
   | (with_reducible exact tangramref01_SameInts.mono _ _ _)
   | (with_reducible exact LeO.refl _)
   | (with_reducible exact LeO.none _)
   | (with_reducible refine LeO.ite ?_ ?_)
   | (with_reducible refine LeO.bind ?_ (fun _ => ?_))
theorem tangramref01_SameLists.mono : ∀ a0 a1 k, LeO (tangramref01_SameLists.f k a0 a1) (tangramref01_SameLists.f (k + 1) a0 a1) := by
 intro a0 a1 k
 have ih0 := tangramref01_SameLists.mono_l k
 unfold tangramref01_SameLists.f
 repeat' first
   | (with_reducible exact ih0 _ _ _)
   | (with_reducible exact tangramref01_SameInts.mono _ _ _)
   | (with_reducible exact LeO.refl _)
   | (with_reducible exact LeO.none _)
   | (with_reducible refine LeO.ite ?_ ?_)
   | (with_reducible refine LeO.bind ?_ (fun _ => ?_))
theorem tangramref01_SameLists.calls (k : Nat) (A0 : Option Addr) (c0 : Nat) (l0 : List (List Int)) (A1 : Option Addr) (c1 : Nat) (l1 : List (List Int)) (r : Bool) (w : World) (hr0 : Kd.C (Kd.slice 3 (Kd.int .i64)) w A0 l0.length l0) (hc0 : l0.length ≤ c0) (hr1 : Kd.C (Kd.slice 3 (Kd.int .i64)) w A1 l1.length l1) (hc1 : l1.length ≤ c1) (h : tangramref01_SameLists.f k l0 l1 = some r) :
  Calls Try.prog 22 #[.slice A0 l0.length c0, .slice A1 l1.length c1] w fun e w' => e = .returned (.bool r) ∧ Drawn0 w w' := by
 have HR0 := Aside0.mk hr0
 have HC0 := Aside0.mk hc0
 clear hr0 hc0
 have HR1 := Aside0.mk hr1
 have HC1 := Aside0.mk hc1
 clear hr1 hc1
 have H : (if (l0.length : Int) = (l1.length : Int) then (tangramref01_SameLists.l0 k l0 l1 0) else (some false)) = some r := h
 clear h
 by_cases c3 : (l0.length : Int) = (l1.length : Int)
 ·rw [if_pos c3] at H
  have c3b0 : ((l0.length : Int) == (l1.length : Int)) = true := beq_iff_eq.mpr c3
  have c3b1 : ((l0.length : Int) != (l1.length : Int)) = false := bne_eq_false_iff_eq.mpr c3
  have c3b2 : (l0.length == l1.length) = true := by first | simpa using c3 | (simp at c3 ⊢; omega)
  clear c3
  have H' := Aside0.mk H
  clear H
  go_enter Try.func22, Try.ntmps22
  go_wp2
  repeat (go_quiet (fail); try go_wp2)
  go_loopg [5] k (fun kq v5 w' => ∃ (x5_1 : Int), v5 = .int .i64 x5_1 ∧ Aside0 (tangramref01_SameLists.l0 kq l0 l1 x5_1 = some r) ∧ Aside0 (kq ≤ k) ∧ Drawn0 w w')
  case atStart => exact ⟨(0), an9, H', ⟨Nat.le_refl _⟩, by repeat (first | exact Drawn0.refl _ | apply Drawn0.step)⟩
  case round =>
   clear H'
   try clear c1
   try clear c2
   try clear p2
   try clear c3
   try clear c3b0
   try clear c3b1
   try clear c3b2
   obtain ⟨x5_1, rfl, HA, HK1, ⟨m1, rfl⟩⟩ := hrel
   cases gk with
   | zero => exact absurd HA.out (by simp [tangramref01_SameLists.l0])
   | succ k1 =>
    have H := HA.out
    clear HA
    simp only [tangramref01_SameLists.l0] at H
    by_cases c4 : x5_1 < (l0.length : Int)
    ·rw [if_pos c4] at H
     have c4b0 : decide (x5_1 < (l0.length : Int)) = true := decide_eq_true c4
     clear c4
     by_cases c5 : 0 ≤ x5_1
     ·rw [if_pos c5] at H
      have c5b0 : decide (0 ≤ x5_1) = true := decide_eq_true c5
      clear c5
      by_cases c6 : x5_1 < (l1.length : Int)
      ·rw [if_pos c6] at H
       have c6b0 : decide (x5_1 < (l1.length : Int)) = true := decide_eq_true c6
       clear c6
       replace H := Option.bind_eq_some_iff.mp H
       obtain ⟨t191, A70, H⟩ := H
       have A7 := Aside0.mk A70
       clear A70
       by_cases c8 : t191 = true
       ·subst c8
        rw [if_pos rfl] at H
        have H' := Aside0.mk H
        clear H
        have p189 : 0 ≤ (x5_1 : Int) := od9
        have q189 : x5_1 < (l0.length : Int) := od9
        obtain ⟨ad189, A189_0, c189_0, e189, hx189_0, hl189_0, hi189_0⟩ := at_L2 HR0.out x5_1 p189 q189
        cases e189
        have HR189_0 := Aside0.mk hi189_0
        have HC189_0 := Aside0.mk hl189_0
        clear hi189_0 hl189_0
        replace p189 := eq_true p189
        replace q189 := eq_true q189
        have p190 : 0 ≤ (x5_1 : Int) := od9
        have q190 : x5_1 < (l1.length : Int) := od9
        obtain ⟨ad190, A190_0, c190_0, e190, hx190_0, hl190_0, hi190_0⟩ := at_L2 HR1.out x5_1 p190 q190
        cases e190
        have HR190_0 := Aside0.mk hi190_0
        have HC190_0 := Aside0.mk hl190_0
        clear hi190_0 hl190_0
        replace p190 := eq_true p190
        replace q190 := eq_true q190
        go_wp2_with (fail)
        repeat (go_quiet (first | (go_at_call 21; (with_reducible refine (tangramref01_SameInts.calls k1 _ _ (rd_L2 l0 x5_1) _ _ (rd_L2 l1 x5_1) true _ ?side1 ?side2 ?side3 ?side4 A7.out).mono ?_); (case side1 => repeat (first | exact HR189_0.out | (with_reducible refine Kd.C_alloc ?_ _) | (with_reducible refine Kd.C_drewN ?_ _) | (with_reducible refine Kd.C_drew ?_))); (case side2 => exact HC189_0.out); (case side3 => repeat (first | exact HR190_0.out | (with_reducible refine Kd.C_alloc ?_ _) | (with_reducible refine Kd.C_drewN ?_ _) | (with_reducible refine Kd.C_drew ?_))); (case side4 => exact HC190_0.out); rintro e w' ⟨rfl, ⟨nd, rfl⟩⟩; (try first | exact ⟨rfl, _, World.drewN_drewN _ _ _⟩ | exact ⟨rfl, _, Eq.trans (World.drewN_drewN _ _ _) (congrArg (World.drewN _) (Nat.add_assoc _ _ _))⟩))); try go_wp2_with (fail))
        go_roundg k1
        case measure => have := HK1.out; omega
        case rel => exact ⟨(wrap64 (x5_1 + 1)), an9, H', ⟨by have := HK1.out; omega⟩, by repeat (first | exact Drawn0.refl _ | apply Drawn0.step)⟩
       ·replace c8 := Bool.eq_false_iff.mpr c8
        subst c8
        rw [if_neg (show ¬ (false = true) by decide)] at H
        obtain rfl := Option.some.inj H
        have p189 : 0 ≤ (x5_1 : Int) := od9
        have q189 : x5_1 < (l0.length : Int) := od9
        obtain ⟨ad189, A189_0, c189_0, e189, hx189_0, hl189_0, hi189_0⟩ := at_L2 HR0.out x5_1 p189 q189
        cases e189
        have HR189_0 := Aside0.mk hi189_0
        have HC189_0 := Aside0.mk hl189_0
        clear hi189_0 hl189_0
        replace p189 := eq_true p189
        replace q189 := eq_true q189
        have p190 : 0 ≤ (x5_1 : Int) := od9
        have q190 : x5_1 < (l1.length : Int) := od9
        obtain ⟨ad190, A190_0, c190_0, e190, hx190_0, hl190_0, hi190_0⟩ := at_L2 HR1.out x5_1 p190 q190
        cases e190
        have HR190_0 := Aside0.mk hi190_0
        have HC190_0 := Aside0.mk hl190_0
        clear hi190_0 hl190_0
        replace p190 := eq_true p190
        replace q190 := eq_true q190
        go_wp2_with (fail)
        repeat (go_quiet (first | (go_at_call 21; (with_reducible refine (tangramref01_SameInts.calls k1 _ _ (rd_L2 l0 x5_1) _ _ (rd_L2 l1 x5_1) false _ ?side1 ?side2 ?side3 ?side4 A7.out).mono ?_); (case side1 => repeat (first | exact HR189_0.out | (with_reducible refine Kd.C_alloc ?_ _) | (with_reducible refine Kd.C_drewN ?_ _) | (with_reducible refine Kd.C_drew ?_))); (case side2 => exact HC189_0.out); (case side3 => repeat (first | exact HR190_0.out | (with_reducible refine Kd.C_alloc ?_ _) | (with_reducible refine Kd.C_drewN ?_ _) | (with_reducible refine Kd.C_drew ?_))); (case side4 => exact HC190_0.out); rintro e w' ⟨rfl, ⟨nd, rfl⟩⟩; (try first | exact ⟨rfl, _, World.drewN_drewN _ _ _⟩ | exact ⟨rfl, _, Eq.trans (World.drewN_drewN _ _ _) (congrArg (World.drewN _) (Nat.add_assoc _ _ _))⟩))); try go_wp2_with (fail))
        go_ret
        exact ⟨by first | rfl | (simp; done) | (simp [*]; done), by repeat (first | exact Drawn0.refl _ | apply Drawn0.step)⟩
      ·rw [if_neg c6] at H
       exact absurd H (by simp)
     ·rw [if_neg c5] at H
      exact absurd H (by simp)
    ·rw [if_neg c4] at H
     have c4b0 : decide (x5_1 < (l0.length : Int)) = false := decide_eq_false c4
     clear c4
     obtain rfl := Option.some.inj H
     go_wp2
     repeat (go_quiet (fail); try go_wp2)
     go_ret
     exact ⟨by first | rfl | (simp; done) | (simp [*]; done), by repeat (first | exact Drawn0.refl _ | apply Drawn0.step)⟩
 ·rw [if_neg c3] at H
  have c3b0 : ((l0.length : Int) == (l1.length : Int)) = false := beq_eq_false_iff_ne.mpr c3
  have c3b1 : ((l0.length : Int) != (l1.length : Int)) = true := bne_iff_ne.mpr c3
  have c3b2 : (l0.length == l1.length) = false := by first | simpa using c3 | (simp at c3 ⊢; omega)
  obtain rfl := Option.some.inj H
  go_enter Try.func22, Try.ntmps22
  go_wp2
  repeat (go_quiet (fail); try go_wp2)
  go_ret
  exact ⟨by first | rfl | (simp; done) | (simp [*]; done), by repeat (first | exact Drawn0.refl _ | apply Drawn0.step)⟩
end GAll
namespace GAll
def tangramref04_Copy.f (a0_0 : Int) (l0_1 : List (S41)) : Option (Int × (List (S41))) := (some (([] : List (S41)) : List (S41))).bind fun y103 => (if y103.length + l0_1.length < 8796093022208 then (some (a0_0, (y103 ++ l0_1))) else (none))
theorem tangramref04_Copy.calls (a0_0 : Int) (A0_1 : Option Addr) (c0_1 : Nat) (l0_1 : List (S41)) (r1 : Int) (r2 : List (S41)) (w : World) (hr0_1 : Kd.C k41 w A0_1 l0_1.length l0_1) (hc0_1 : l0_1.length ≤ c0_1) (h : tangramref04_Copy.f a0_0 l0_1 = some (r1, r2)) :
  Calls Try.prog 14 #[.agg #[.int .i64 a0_0, .slice A0_1 l0_1.length c0_1]] w fun e w' => ∃ v1_ : Value, e = .returned (.agg #[.int .i64 r1, v1_]) ∧ Kd.R k41 41 w' w.heap.size (fun _ => True) v1_ r2 ∧ Below w.heap.size w w' := by
 have hu24 := Try.underlying24
 have HR0_1 := Aside0.mk hr0_1
 have HC0_1 := Aside0.mk hc0_1
 clear hr0_1 hc0_1
 have HB := Aside0.mk (Below.refl w.heap.size w)
 have H : ((some (([] : List (S41)) : List (S41))).bind fun y103 => (if y103.length + l0_1.length < 8796093022208 then (some (a0_0, (y103 ++ l0_1))) else (none))) = some (r1, r2) := h
 clear h
 obtain ⟨y103, hy103⟩ : ∃ y_ : List (S41), y_ = (([] : List (S41))) := ⟨_, rfl⟩
 replace H : (if y103.length + l0_1.length < 8796093022208 then (some (a0_0, (y103 ++ l0_1))) else (none)) = some (r1, r2) := by first | (rw [hy103]; exact H) | exact H
 have Ny103 := Aside0.mk hy103
 clear hy103
 by_cases c2 : y103.length + l0_1.length < 8796093022208
 ·rw [if_pos c2] at H
  have LMc2 := Aside0.mk c2
  clear c2
  obtain ⟨y106, hy106⟩ : ∃ y_ : List (S41), y_ = (y103 ++ l0_1) := ⟨_, rfl⟩
  replace H : (some (a0_0, y106)) = some (r1, r2) := by first | (rw [hy106]; exact H) | exact H
  have Ny106 := Aside0.mk hy106
  clear hy106
  simp only [Option.some.injEq, Prod.mk.injEq] at H
  obtain ⟨rfl, rfl⟩ := H
  go_enter Try.func14, Try.ntmps14
  go_wp2_with (first | ((with_reducible refine gate_dst (N := 1) rfl ?_); refine bx9 (N := 1) (cs := #[.int .i64 a0_0, .slice A0_1 l0_1.length c0_1]) (t := 24) ?_; intro gb101 hg w3 hbox hb; have BK101 := Aside0.mk (hbox); have GW101 := gw9 HB hg; have GE101 := gw9 HB hg; replace HB := bs9 HB hb; clear hb hbox hg) | ((with_reducible refine gate_dst (N := 2) rfl ?_); refine bx9 (N := 2) (cs := #[.int .i64 0, .slice none 0 0]) (t := 24) ?_; intro gb102 hg w4 hbox hb; have BK102 := Aside0.mk (hbox); have GW102 := gw9 HB hg; have GE102 := gw9 HB hg; have NB101_102 := nl9 BK101 hg; have NB102_101 := ng9 BK101 hg; replace BK101 := bb9 BK101 hb; replace HB := bs9 HB hb; clear hb hbox hg) | ((with_reducible refine gate_dst (N := 3) rfl ?_); refine Kd.R_lit k41 _ 41 ?hg (N := 3) ?hd (xs := ([] : List (S41))) (inner := []) (ok := fun _ => True) (okp := fun _ => True) ?hr ?hp (fun _ hk => hk) trivial (Below.refl _ _) (Nat.le_refl _) (by simp) ?_; (case hd => rfl); (case hg => rfl); (case hr => first | (go_simp; done) | (go_simp; rfl)); (case hp => exact (Reps.none _ _)); intro v104 w5 ho6 hb hg_ hnew_; clear hg_ hnew_; (first | rw [← Ny103.out] at ho6 | (simp only [Int.reduceToNat] at ho6; rw [← Ny103.out] at ho6)); have HO105 := Aside0.mk (Kd.R_lower ho6 (sz9 HB)); replace BK101 := bb9 BK101 hb; replace BK102 := bb9 BK102 hb; replace HB := bs9 HB hb; clear hb ho6; have hnb7 := NB101_102.out; have hnc7 := NB102_101.out; have hcz8_0 := cz9 BK101 0; have hcz8_1 := cz9 BK101 1; have hfz8_0 := blk_frozen BK101.out 0; have hfz8_1 := blk_frozen BK101.out 1) | ((with_reducible refine gate_builtin (b := .append) (xs := #[.tmp 3, .tmp 5]) rfl ?_); at_builtin; refine Kd.R_append_rows k41 (w0 := w) w.heap.size rfl (.tmp 3) (.tmp 5) 22 41 (.agg #[(.int .i64 0), (.int .i64 0)]) 16 rfl Try.underlying22 info41 rfl (by decide) (by omega) v104 y103 l0_1 _ _ _ (fun _ => True) (fun _ => False) rfl rfl ?aO ?aR (fun _ _ h => h) (fun _ h => h.elim) ?aF ?aB ?aS ?aL ?_; (case aR => repeat (first | exact (Kd.C_below HR0_1.out HB.out) | (with_reducible refine Kd.C_alloc ?_ _) | (with_reducible refine Kd.C_drewN ?_ _) | (with_reducible refine Kd.C_drew ?_))); (case aB => exact (bl9 HB)); (case aF => exact (fun _ _ => trivial)); (case aO => exact (ro9 HO105)); (case aS => exact (sz9 HB)); (case aL => have := LMc2.out; omega); intro v107 w9 ho hb hg hat; rw [← Ny106.out] at ho; have HO108 := Aside0.mk (ho); replace BK101 := Aside0.mk (blk_grown (g := gb101) (o := .cells #[.int .i64 a0_0, .slice A0_1 l0_1.length c0_1] 24 (0, 0)) (by (with_reducible repeat (first | refine blk_drewN ?_ _ | refine blk_drew ?_ | refine blk_alloc ?_ _)); exact BK101.out) hg (Kd.R_ne HO105.out BK101.out (by decide))); replace BK102 := Aside0.mk (blk_grown (g := gb102) (o := .cells #[.int .i64 0, .slice none 0 0] 24 (0, 0)) (by (with_reducible repeat (first | refine blk_drewN ?_ _ | refine blk_drew ?_ | refine blk_alloc ?_ _)); exact BK102.out) hg (Kd.R_ne HO105.out BK102.out (by decide))); replace HB := Aside0.mk (hb); clear HO105; clear ho hb hg hat; obtain ⟨Ao10, co10, eo10⟩ := Kd.R_slice HO108.out; subst eo10; have hcz11_0 := cz9 BK101 0; have hcz11_1 := cz9 BK101 1; have hfz11_0 := blk_frozen BK101.out 0; have hfz11_1 := blk_frozen BK101.out 1; have hcz12_0 := cz9 BK102 0; have hcz12_1 := cz9 BK102 1; have hfz12_0 := blk_frozen BK102.out 0; have hfz12_1 := blk_frozen BK102.out 1))
  refine bodyPost_ret (results_cell_row rfl _ _ gb102 24 #[.int .i64 a0_0, .slice Ao10 y106.length co10] (0, 0) _ rfl (by (with_reducible repeat (first | refine blk_drewN ?_ _ | refine blk_drew ?_ | refine blk_alloc ?_ _)); refine blk_put (cs := #[.int .i64 a0_0, .slice none 0 0]) ?_ 1 _ rfl; (with_reducible repeat (first | refine blk_drewN ?_ _ | refine blk_drew ?_ | refine blk_alloc ?_ _)); refine blk_put (cs := #[.int .i64 0, .slice none 0 0]) ?_ 0 _ rfl; (with_reducible repeat (first | refine blk_drewN ?_ _ | refine blk_drew ?_ | refine blk_alloc ?_ _)); refine blk_far ?_ NB102_101.out _; (with_reducible repeat (first | refine blk_drewN ?_ _ | refine blk_drew ?_ | refine blk_alloc ?_ _)); exact BK102.out) Try.underlying24 rfl (by kernel_rfl)) rfl ?_
  exact ⟨_, er9, by (with_reducible repeat (first | apply Kd.R_alloc | apply Kd.R_drewN | apply Kd.R_drew)); exact Kd.R_mono (Kd.R_far (p := ⟨gb102, 1, none⟩) (Kd.R_far (p := ⟨gb102, 0, none⟩) (Kd.R_far (p := ⟨gb101, 1, none⟩) (Kd.R_types (Kd.R_types HO108.out BK101.out (by decide)) BK102.out (by decide)) (fun _ hk => hk.1.2) (.slice Ao10 y106.length co10)) (fun _ hk => hk.2) (.int .i64 a0_0)) (fun _ hk => hk.2) (.slice Ao10 y106.length co10)) (fun _ hk => trivial), bl9 HB⟩
 ·rw [if_neg c2] at H
  exact absurd H (by simp)
end GAll
namespace GAll
def tangramref13_Copy.l0 : Nat → List (List Int) → List (List Int) → Int → Option ((List (List Int)))
 | 0, _, _, _ => none
 | k + 1, x0, x3, x4 => if x4 < (x0.length : Int) then ((some (([] : List Int) : List Int)).bind fun y109 => (if 0 ≤ x4 then (if y109.length + (rd_L2 x0 x4).length < 17592186044416 then (if x3.length < 5864062014805 then (tangramref13_Copy.l0 k x0 (x3 ++ [(y109 ++ (rd_L2 x0 x4))]) (wrap64 (x4 + 1))) else (none)) else (none)) else (none))) else (some x3)
def tangramref13_Copy.f (k : Nat) (l0 : List (List Int)) : Option ((List (List Int))) := tangramref13_Copy.l0 k l0 ([] : List (List Int)) 0
theorem tangramref13_Copy.mono_l : ∀ k, (∀ y0 y1 y2, LeO (tangramref13_Copy.l0 k y0 y1 y2) (tangramref13_Copy.l0 (k + 1) y0 y1 y2))
 | 0 => fun _ _ _ r h => by simp [tangramref13_Copy.l0] at h
 | k + 1 => by
  have ih0 := tangramref13_Copy.mono_l k
  ·intro y0 y1 y2
   unfold tangramref13_Copy.l0
   repeat' first
   | (with_reducible exact ih0 _ _ _)
   | (with_reducible exact LeO.refl _)
   | (with_reducible exact LeO.none _)
   | (with_reducible refine LeO.ite ?_ ?_)
   | (with_reducible refine LeO.bind ?_ (fun _ => ?_))
theorem tangramref13_Copy.mono : ∀ a0 k, LeO (tangramref13_Copy.f k a0) (tangramref13_Copy.f (k + 1) a0) := by
 intro a0 k
 have ih0 := tangramref13_Copy.mono_l k
 unfold tangramref13_Copy.f
 repeat' first
   | (with_reducible exact ih0 _ _ _)
   | (with_reducible exact LeO.refl _)
   | (with_reducible exact LeO.none _)
   | (with_reducible refine LeO.ite ?_ ?_)
   | (with_reducible refine LeO.bind ?_ (fun _ => ?_))
theorem tangramref13_Copy.calls (k : Nat) (A0 : Option Addr) (c0 : Nat) (l0 : List (List Int)) (r : List (List Int)) (w : World) (hr0 : Kd.C (Kd.slice 3 (Kd.int .i64)) w A0 l0.length l0) (hc0 : l0.length ≤ c0) (h : tangramref13_Copy.f k l0 = some r) :
  Calls Try.prog 15 #[.slice A0 l0.length c0] w fun e w' => ∃ v0_ : Value, e = .returned (v0_) ∧ Kd.S (Kd.slice 3 (Kd.int .i64)) 27 w' w.heap.size (fun _ => True) v0_ r ∧ Below w.heap.size w w' := by
 have HR0 := Aside0.mk hr0
 have HC0 := Aside0.mk hc0
 clear hr0 hc0
 have HB := Aside0.mk (Below.refl w.heap.size w)
 have H : (tangramref13_Copy.l0 k l0 ([] : List (List Int)) 0) = some r := h
 clear h
 have H' := Aside0.mk H
 clear H
 go_enter Try.func15, Try.ntmps15
 go_wp2
 go_loopg [3, 4] k (fun kq v3 v4 w' => ∃ (x3_1 : List (List Int)) (x4_1 : Int), v4 = .int .i64 x4_1 ∧ Aside0 (tangramref13_Copy.l0 kq l0 x3_1 x4_1 = some r) ∧ Aside0 (kq ≤ k) ∧ Aside0 (Kd.S (Kd.slice 3 (Kd.int .i64)) 27 w' w.heap.size (fun _ => True) v3 x3_1) ∧ Aside0 (Below w.heap.size w w'))
 case atStart => exact ⟨(([] : List (List Int))), (0), an9, H', ⟨Nat.le_refl _⟩, ⟨by first | exact Kd.S_nil _ _ _ _ _ | exact Kd.N_nil _ _ _ _ _ | exact Kd.V_nil _ _ _ _ _ | exact Kd.Q_nil _ _ _ _ _ | exact Kd.R_nil _ _ _ _ _⟩, ⟨bl9 HB⟩⟩
 case round =>
  clear H'
  try clear c1
  obtain ⟨x3_1, x4_1, rfl, HA, HK1, HO_3, HB⟩ := hrel
  cases gk with
  | zero => exact absurd HA.out (by simp [tangramref13_Copy.l0])
  | succ k1 =>
   have H := HA.out
   clear HA
   simp only [tangramref13_Copy.l0] at H
   by_cases c2 : x4_1 < (l0.length : Int)
   ·rw [if_pos c2] at H
    have c2b0 : decide (x4_1 < (l0.length : Int)) = true := decide_eq_true c2
    clear c2
    obtain ⟨y109, hy109⟩ : ∃ y_ : List Int, y_ = (([] : List Int)) := ⟨_, rfl⟩
    replace H : (if 0 ≤ x4_1 then (if y109.length + (rd_L2 l0 x4_1).length < 17592186044416 then (if x3_1.length < 5864062014805 then (tangramref13_Copy.l0 k1 l0 (x3_1 ++ [(y109 ++ (rd_L2 l0 x4_1))]) (wrap64 (x4_1 + 1))) else (none)) else (none)) else (none)) = some r := by first | (rw [hy109]; exact H) | exact H
    have Ny109 := Aside0.mk hy109
    clear hy109
    by_cases c3 : 0 ≤ x4_1
    ·rw [if_pos c3] at H
     have c3b0 : decide (0 ≤ x4_1) = true := decide_eq_true c3
     clear c3
     by_cases c4 : y109.length + (rd_L2 l0 x4_1).length < 17592186044416
     ·rw [if_pos c4] at H
      have LMc4 := Aside0.mk c4
      clear c4
      obtain ⟨y113, hy113⟩ : ∃ y_ : List Int, y_ = (y109 ++ (rd_L2 l0 x4_1)) := ⟨_, rfl⟩
      replace H : (if x3_1.length < 5864062014805 then (tangramref13_Copy.l0 k1 l0 (x3_1 ++ [y113]) (wrap64 (x4_1 + 1))) else (none)) = some r := by first | (rw [hy113]; exact H) | exact H
      have Ny113 := Aside0.mk hy113
      clear hy113
      by_cases c5 : x3_1.length < 5864062014805
      ·rw [if_pos c5] at H
       have LMc5 := Aside0.mk c5
       clear c5
       obtain ⟨y116, hy116⟩ : ∃ y_ : List (List Int), y_ = (x3_1 ++ [y113]) := ⟨_, rfl⟩
       replace H : (tangramref13_Copy.l0 k1 l0 y116 (wrap64 (x4_1 + 1))) = some r := by first | (rw [hy116]; exact H) | exact H
       have Ny116 := Aside0.mk hy116
       clear hy116
       have H' := Aside0.mk H
       clear H
       go_wp2_with (first | ((with_reducible refine gate_dst (N := 12) rfl ?_); refine Kd.R_lit (Kd.int .i64) _ 3 ?hg (N := 12) ?hd (xs := ([] : List Int)) (inner := []) (ok := fun _ => True) (okp := fun _ => True) ?hr ?hp (fun _ hk => hk) trivial (Below.refl _ _) (Nat.le_refl _) (by simp) ?_; (case hd => rfl); (case hg => rfl); (case hr => first | (go_simp; done) | (go_simp; rfl)); (case hp => exact (Reps.none _ _)); intro v110 w6 ho7 hb hg_ hnew_; clear hg_ hnew_; (first | rw [← Ny109.out] at ho7 | (simp only [Int.reduceToNat] at ho7; rw [← Ny109.out] at ho7)); have HO111 := Aside0.mk (Kd.R_lower ho7 (sz9 HB)); replace HO_3 := Aside0.mk (Kd.S_elder' (by (with_reducible repeat (first | apply Kd.S_alloc | apply Kd.S_drewN | apply Kd.S_drew)); exact HO_3.out) (Kd.R_base ho7) hb); replace HB := bs9 HB hb; clear hb ho7; have p112 : 0 ≤ (x4_1 : Int) := od9; have q112 : x4_1 < (l0.length : Int) := od9; obtain ⟨ad112, A112_0, c112_0, e112, hx112_0, hl112_0, hi112_0⟩ := at_L2 HR0.out x4_1 p112 q112; cases e112; replace hx112_0 := (HB.out.cell (World.block_lt_of_cell? w _ hx112_0)).trans hx112_0; have HR112_0 := Aside0.mk hi112_0; have HC112_0 := Aside0.mk hl112_0; clear hi112_0 hl112_0; replace p112 := eq_true p112; replace q112 := eq_true q112) | ((with_reducible refine gate_builtin (b := .append) (xs := #[.tmp 12, .tmp 16]) rfl ?_); at_builtin; refine Kd.R_append_rows (Kd.int .i64) (w0 := w) w.heap.size rfl (.tmp 12) (.tmp 16) 27 3 (.int .i64 0) 8 rfl Try.underlying27 info3 rfl (by decide) (by omega) v110 y109 (rd_L2 l0 x4_1) _ _ _ (fun _ => True) (fun _ => False) rfl rfl ?aO ?aR (fun _ _ h => h) (fun _ h => h.elim) ?aF ?aB ?aS ?aL ?_; (case aR => repeat (first | exact (Kd.C_below HR112_0.out HB.out) | (with_reducible refine Kd.C_alloc ?_ _) | (with_reducible refine Kd.C_drewN ?_ _) | (with_reducible refine Kd.C_drew ?_))); (case aB => exact (bl9 HB)); (case aF => exact (fun _ _ => trivial)); (case aO => exact (ro9 HO111)); (case aS => exact (sz9 HB)); (case aL => have := LMc4.out; omega); intro v114 w8 ho hb hg hat; rw [← Ny113.out] at ho; have HO115 := Aside0.mk (ho); replace HO_3 := Aside0.mk (Kd.S_after (ok := (fun _ => True)) (by (with_reducible repeat (first | apply Kd.S_alloc | apply Kd.S_drewN | apply Kd.S_drew)); exact HO_3.out) hg hat); replace HB := Aside0.mk (hb); clear HO111; clear ho hb hg hat; obtain ⟨Ao10, co10, eo10⟩ := Kd.R_slice HO115.out; subst eo10) | ((with_reducible refine gate_builtin (b := .append) (xs := #[.tmp 11, .tmp 18]) rfl ?_); at_builtin; refine Kd.S_append (Kd.slice 3 (Kd.int .i64)) (w0 := w) w.heap.size rfl (.tmp 11) (.tmp 18) 26 27 (.slice none 0 0) 24 rfl Try.underlying26 info27 rfl (by decide) (by omega) u3 x3_1 y113 [.slice Ao10 y113.length co10] (fun _ => True) (fun k_ => some k_ = (.slice Ao10 y113.length co10 : Value).ownBlock) rfl rfl ?aP (fun k_ hk_ => ((Kd.R_mono (ok' := fun k_ => ((fun _ => True)) k_ ∧ some k_ ≠ (u3 : Value).ownBlock) (Kd.R_apart' (HO115.out) (Kd.S_typed HO_3.out) (by decide)) (fun k_ hk => ⟨trivial, hk.2⟩))).1 k_ hk_.symm) ?aF ?aO ?aB ?aS ?aL ?_; (case aP => exact Kd.M_row (Kd.R_mono (Kd.R_tight rfl (Kd.R_mono (ok' := fun k_ => ((fun _ => True)) k_ ∧ some k_ ≠ (u3 : Value).ownBlock) (Kd.R_apart' (HO115.out) (Kd.S_typed HO_3.out) (by decide)) (fun k_ hk => ⟨trivial, hk.2⟩))) (fun _ h_ => h_))); (case aB => exact (bl9 HB)); (case aF => exact (fun _ _ => trivial)); (case aO => exact (by (with_reducible repeat (first | apply Kd.S_alloc | apply Kd.S_drewN | apply Kd.S_drew)); exact Kd.S_mono HO_3.out (fun k_ hk => ⟨trivial, fun e_ => hk.2 e_⟩))); (case aS => exact (sz9 HB)); (case aL => have := LMc5.out; omega); intro v117 w9 ho hb hg hat; rw [← Ny116.out] at ho; have HO118 := Aside0.mk (ho); replace HB := Aside0.mk (hb); clear HO_3 HO115; clear ho hb hg hat))
       go_roundg k1
       case measure => have := HK1.out; omega
       case rel => exact ⟨(y116), (wrap64 (x4_1 + 1)), an9, H', ⟨by have := HK1.out; omega⟩, ⟨by (with_reducible repeat (first | apply Kd.S_alloc | apply Kd.S_drewN | apply Kd.S_drew)); exact HO118.out⟩, ⟨bl9 HB⟩⟩
      ·rw [if_neg c5] at H
       exact absurd H (by simp)
     ·rw [if_neg c4] at H
      exact absurd H (by simp)
    ·rw [if_neg c3] at H
     exact absurd H (by simp)
   ·rw [if_neg c2] at H
    have c2b0 : decide (x4_1 < (l0.length : Int)) = false := decide_eq_false c2
    clear c2
    obtain rfl := Option.some.inj H
    go_wp2
    go_ret
    exact ⟨_, er9, by (with_reducible repeat (first | apply Kd.S_alloc | apply Kd.S_drewN | apply Kd.S_drew)); exact HO_3.out, bl9 HB⟩
end GAll
namespace Rot
open GAll Mem
theorem w1 {i : Nat} (h : i < 9223372036854775807) : wrap64 ((i : Int) + 1) = ((i + 1 : Nat) : Int) := by rw [IntWalk.wrap64_in _ (by omega)]; omega
theorem gi_get {l : List Int} {i : Nat} (h : i < l.length) : gi l i = l[i] := by unfold gi; rw [List.getD_eq_getElem?_getD, List.getElem?_eq_getElem h]; rfl
theorem ints_ev {a b : List Int} (hm : a.length ≤ 9000000000000000) : Ev (fun k => tangramref01_SameInts.f k a b) (decide (a = b)) := by
 by_cases h : a.length = b.length
 ·have loop : ∀ (d i : Nat), i + d = a.length → a.take i = b.take i → Ev (fun k => tangramref01_SameInts.l0 k a b (i : Int)) (decide (a = b)) := by
   intro d
   induction d with
   | zero =>
    intro i hi ht
    rw [List.take_of_length_le (by omega), List.take_of_length_le (by omega)] at ht
    rw [decide_eq_true ht]
    refine Ev.step (f := fun _ => some true) (fun k => ?_) (Ev.now _)
    simp only [tangramref01_SameInts.l0]
    rw [if_neg (by omega)]
   | succ d ih =>
    intro i hi ht
    have hx : i < a.length := by omega
    have hy : i < b.length := by omega
    by_cases e : a[i] = b[i]
    ·refine Ev.step (fun k => ?_) (ih (i + 1) (by omega) (by rw [List.take_succ_eq_append_getElem hx, List.take_succ_eq_append_getElem hy, ht, e]))
     simp only [tangramref01_SameInts.l0]
     rw [if_pos (by omega), if_pos (by omega), if_pos (by omega), gi_rd, gi_rd, gi_get hx, gi_get hy, if_pos e, w1 (by omega)]
    ·rw [decide_eq_false (by rintro rfl; exact e rfl)]
     refine Ev.step (f := fun _ => some false) (fun k => ?_) (Ev.now _)
     simp only [tangramref01_SameInts.l0]
     rw [if_pos (by omega), if_pos (by omega), if_pos (by omega), gi_rd, gi_rd, gi_get hx, gi_get hy, if_neg e]
  have := loop a.length 0 (by omega) rfl
  unfold tangramref01_SameInts.f
  exact Ev.congr (fun k => if_pos (by omega)) this
 ·rw [decide_eq_false (fun e => h (by rw [e]))]
  unfold tangramref01_SameInts.f
  exact Ev.congr (fun k => if_neg (by omega)) (Ev.now _)
theorem ints_same {a : List Int} (hm : a.length ≤ 9000000000000000) : Ev (fun k => tangramref01_SameInts.f k a a) true := by
 have := ints_ev (a := a) (b := a) hm
 rw [decide_eq_true rfl] at this
 exact this
theorem copy4_ev (n : Int) (l : List Ed) (hl : l.length < 8796093022208) : tangramref04_Copy.f n l = some (n, l) := by
 unfold tangramref04_Copy.f
 rw [Option.bind_some, List.nil_append, if_pos (by simpa using hl)]
theorem copy13_ev (r : List (List Int)) (hs : Small r) : Ev (fun k => tangramref13_Copy.f k r) r := by
 have h1 := hs.1
 have loop : ∀ (d i : Nat), i + d = r.length → Ev (fun k => tangramref13_Copy.l0 k r (r.take i) (i : Int)) r := by
  intro d
  induction d with
  | zero =>
   intro i hi
   refine Ev.step (f := fun _ => some r) (fun k => ?_) (Ev.now _)
   simp only [tangramref13_Copy.l0]
   rw [if_neg (by omega), List.take_of_length_le (by omega)]
  | succ d ih =>
   intro i hi
   have hx : i < r.length := by omega
   have h2 := hs.2 _ (List.getElem_mem hx)
   refine Ev.step (fun k => ?_) (ih (i + 1) (by omega))
   simp only [tangramref13_Copy.l0]
   have e : r.getD ((i : Int).toNat) [] = r[i] := by rw [Int.toNat_natCast, List.getD_eq_getElem?_getD, List.getElem?_eq_getElem hx]; rfl
   rw [if_pos (by omega), Option.bind_some, if_pos (by omega)]
   change (if ([] : List Int).length + (r.getD ((i : Int).toNat) []).length < _ then (if _ then tangramref13_Copy.l0 k r (r.take i ++ [[] ++ r.getD ((i : Int).toNat) []]) _ else none) else none) = _
   rw [e, List.nil_append, if_pos (by simp only [List.length_nil]; omega), if_pos (by rw [List.length_take]; omega), w1 (by omega), List.take_succ_eq_append_getElem hx]
 exact loop r.length 0 (by omega)
theorem lists_same (xs : List (List Int)) (hl : xs.length ≤ 900000000) (hi : ∀ x ∈ xs, x.length ≤ 900000000) : Ev (fun k => tangramref01_SameLists.f k xs xs) true := by
 have loop : ∀ (d i : Nat), i + d = xs.length → Ev (fun k => tangramref01_SameLists.l0 k xs xs (i : Int)) true := by
  intro d
  induction d with
  | zero =>
   intro i hi
   refine Ev.step (f := fun _ => some true) (fun k => ?_) (Ev.now _)
   simp only [tangramref01_SameLists.l0]
   rw [if_neg (by omega)]
  | succ d ih =>
   intro i hd
   refine Ev.step (f := fun k => (tangramref01_SameInts.f k (xs.getD i []) (xs.getD i [])).bind fun t => if t = true then tangramref01_SameLists.l0 k xs xs ((i + 1 : Nat) : Int) else some false) (fun k => ?_) (Ev.bind (ints_same (Nat.le_trans (hi _ ?_) (by decide))) ?_)
   ·simp only [tangramref01_SameLists.l0]
    rw [if_pos (by omega), if_pos (by omega), if_pos (by omega), w1 (by omega)]
    rfl
   ·rw [List.getD_eq_getElem?_getD, List.getElem?_eq_getElem (by omega)]
    exact List.getElem_mem _
   ·simp only [if_true]
    exact ih (i + 1) (by omega)
 refine Ev.congr (fun k => ?_) (loop xs.length 0 (by omega))
 simp only [tangramref01_SameLists.f]
 rw [if_pos trivial]
 rfl
end Rot
namespace GAll
mutual
def faces_Of.l0 : Nat → List Int → List Bool → List (List Int) → Int → Int → Option ((List (List Int)) × Int)
 | 0, _, _, _, _, _ => none
 | k + 1, x6, x8, x9, x26, x27 => if x27 < x26 then (faces_Of.l1 k x6 x8 x9 ([] : List Int) x27 x26 x27) else (some (x9, 0))
def faces_Of.l1 : Nat → List Int → List Bool → List (List Int) → List Int → Int → Int → Int → Option ((List (List Int)) × Int)
 | 0, _, _, _, _, _, _, _ => none
 | k + 1, x6, x8, x9, x11, x12, x26, x27 => if 0 ≤ x12 then (if x12 < (x8.length : Int) then (if rdOf false x8 x12 = true then (if (x11.length : Int) > 0 then (if x9.length < 5864062014805 then (faces_Of.l0 k x6 x8 (x9 ++ [x11]) x26 (wrap64 (x27 + 1))) else (none)) else (faces_Of.l0 k x6 x8 x9 x26 (wrap64 (x27 + 1)))) else (if x11.length < 17592186044416 then (if 0 ≤ (Go.bits .xor .i64 x12 1) then (if (Go.bits .xor .i64 x12 1) < (x6.length : Int) then (faces_Of.l1 k x6 (x8.set (x12 : Int).toNat true) x9 (x11 ++ [x12]) (rd x6 (Go.bits .xor .i64 x12 1)) x26 x27) else (none)) else (none)) else (none))) else (none)) else (none)
end
def faces_Of.f (k : Nat) (a0_0 : Int) (l0_1 : List (S41)) (l1 : List (List Int)) : Option ((List (List Int)) × Int) := (rot_Next.f k a0_0 l0_1 l1).bind fun bt131 => (if bt131.2 = 0 then (if 0 ≤ (bt131.1.length : Int) then (if ((bt131.1.length : Int) : Int).toNat ≤ 281474976710656 then (faces_Of.l0 k bt131.1 (List.replicate ((bt131.1.length : Int) : Int).toNat false) ([] : List (List Int)) (bt131.1.length : Int) 0) else (none)) else (none)) else (some (([] : List (List Int)), bt131.2)))
theorem faces_Of.mono_l : ∀ k, (∀ y0 y1 y2 y3 y4, LeO (faces_Of.l0 k y0 y1 y2 y3 y4) (faces_Of.l0 (k + 1) y0 y1 y2 y3 y4)) ∧ (∀ y0 y1 y2 y3 y4 y5 y6, LeO (faces_Of.l1 k y0 y1 y2 y3 y4 y5 y6) (faces_Of.l1 (k + 1) y0 y1 y2 y3 y4 y5 y6))
 | 0 => ⟨fun _ _ _ _ _ r h => by simp [faces_Of.l0] at h, fun _ _ _ _ _ _ _ r h => by simp [faces_Of.l1] at h⟩
 | k + 1 => by
  obtain ⟨ih0, ih1⟩ := faces_Of.mono_l k
  refine ⟨?_, ?_⟩
  ·intro y0 y1 y2 y3 y4
   unfold faces_Of.l0
   repeat' first
   | (with_reducible exact ih0 _ _ _ _ _)
   | (with_reducible exact ih1 _ _ _ _ _ _ _)
   | (with_reducible exact rot_Next.mono _ _ _ _)
   | (with_reducible exact LeO.refl _)
   | (with_reducible exact LeO.none _)
   | (with_reducible refine LeO.ite ?_ ?_)
   | (with_reducible refine LeO.bind ?_ (fun _ => ?_))
  ·intro y0 y1 y2 y3 y4 y5 y6
   unfold faces_Of.l1
   repeat' first
   | (with_reducible exact ih0 _ _ _ _ _)
   | (with_reducible exact ih1 _ _ _ _ _ _ _)
   | (with_reducible exact rot_Next.mono _ _ _ _)
   | (with_reducible exact LeO.refl _)
   | (with_reducible exact LeO.none _)
   | (with_reducible refine LeO.ite ?_ ?_)
   | (with_reducible refine LeO.bind ?_ (fun _ => ?_))
theorem faces_Of.mono : ∀ a0 a1 a2 k, LeO (faces_Of.f k a0 a1 a2) (faces_Of.f (k + 1) a0 a1 a2) := by
 intro a0 a1 a2 k
 obtain ⟨ih0, ih1⟩ := faces_Of.mono_l k
 unfold faces_Of.f
 repeat' first
   | (with_reducible exact ih0 _ _ _ _ _)
   | (with_reducible exact ih1 _ _ _ _ _ _ _)
   | (with_reducible exact rot_Next.mono _ _ _ _)
   | (with_reducible exact LeO.refl _)
   | (with_reducible exact LeO.none _)
   | (with_reducible refine LeO.ite ?_ ?_)
   | (with_reducible refine LeO.bind ?_ (fun _ => ?_))
theorem faces_Of.calls (k : Nat) (a0_0 : Int) (A0_1 : Option Addr) (c0_1 : Nat) (l0_1 : List (S41)) (A1 : Option Addr) (c1 : Nat) (l1 : List (List Int)) (r1 : List (List Int)) (r2 : Int) (w : World) (hr0_1 : Kd.C k41 w A0_1 l0_1.length l0_1) (hc0_1 : l0_1.length ≤ c0_1) (hr1 : Kd.C (Kd.slice 3 (Kd.int .i64)) w A1 l1.length l1) (hc1 : l1.length ≤ c1) (h : faces_Of.f k a0_0 l0_1 l1 = some (r1, r2)) :
  Calls Try.prog 62 #[.agg #[.int .i64 a0_0, .slice A0_1 l0_1.length c0_1], .slice A1 l1.length c1] w fun e w' => ∃ v0_ : Value, e = .returned (.tuple #[v0_, .int .i64 r2]) ∧ Kd.S (Kd.slice 3 (Kd.int .i64)) 27 w' w.heap.size (fun _ => True) v0_ r1 ∧ Below w.heap.size w w' := by
 have hu24 := Try.underlying24
 have HR0_1 := Aside0.mk hr0_1
 have HC0_1 := Aside0.mk hc0_1
 clear hr0_1 hc0_1
 have HR1 := Aside0.mk hr1
 have HC1 := Aside0.mk hc1
 clear hr1 hc1
 have HB := Aside0.mk (Below.refl w.heap.size w)
 have H : ((rot_Next.f k a0_0 l0_1 l1).bind fun bt131 => (if bt131.2 = 0 then (if 0 ≤ (bt131.1.length : Int) then (if ((bt131.1.length : Int) : Int).toNat ≤ 281474976710656 then (faces_Of.l0 k bt131.1 (List.replicate ((bt131.1.length : Int) : Int).toNat false) ([] : List (List Int)) (bt131.1.length : Int) 0) else (none)) else (none)) else (some (([] : List (List Int)), bt131.2)))) = some (r1, r2) := h
 clear h
 replace H := Option.bind_eq_some_iff.mp H
 obtain ⟨⟨t131, t134⟩, A30, H⟩ := H
 have A3 := Aside0.mk A30
 clear A30
 by_cases c4 : t134 = 0
 ·rw [if_pos c4] at H
  have c4b0 : (t134 == 0) = true := beq_iff_eq.mpr c4
  have c4b1 : (t134 != 0) = false := bne_eq_false_iff_eq.mpr c4
  clear c4
  by_cases c5 : 0 ≤ (t131.length : Int)
  ·rw [if_pos c5] at H
   have c5b0 := eq_true c5
   have c5b1 : decide (0 ≤ (t131.length : Int)) = true := decide_eq_true c5
   clear c5
   by_cases c6 : ((t131.length : Int) : Int).toNat ≤ 281474976710656
   ·rw [if_pos c6] at H
    have c6b0 := eq_true c6
    have c6b1 : decide (((t131.length : Int) : Int).toNat ≤ 281474976710656) = true := decide_eq_true c6
    clear c6
    obtain ⟨y135, hy135⟩ : ∃ y_ : List Bool, y_ = (List.replicate ((t131.length : Int) : Int).toNat false) := ⟨_, rfl⟩
    replace H : (faces_Of.l0 k t131 y135 ([] : List (List Int)) (t131.length : Int) 0) = some (r1, r2) := by first | (rw [hy135]; exact H) | exact H
    have Ny135 := Aside0.mk hy135
    clear hy135
    have H' := Aside0.mk H
    clear H
    go_enter Try.func62, Try.ntmps62
    go_wp2_with (first | ((with_reducible refine gate_dst (N := 2) rfl ?_); refine bx9 (N := 2) (cs := #[.int .i64 a0_0, .slice A0_1 l0_1.length c0_1]) (t := 24) ?_; intro gb130 hg w7 hbox hb; have BK130 := Aside0.mk (hbox); have GW130 := gw9 HB hg; have GE130 := gw9 HB hg; replace HB := bs9 HB hb; clear hb hbox hg; have hcz8_0 := cz9 BK130 0; have hcz8_1 := cz9 BK130 1; have hfz8_0 := blk_frozen BK130.out 0; have hfz8_1 := blk_frozen BK130.out 1) | ((with_reducible refine gate_callee (f := 46) rfl ?_); refine gL9 (some 16) Try.func46 #[.agg #[.int .i64 a0_0, .slice A0_1 l0_1.length c0_1], .slice A1 l1.length c1] ?_; (with_reducible refine (rot_Next.calls k a0_0 _ _ l0_1 _ _ l1 t131 t134 _ ?side1 ?side2 ?side3 ?side4 A3.out).mono ?_); (case side1 => exact cb9 HR0_1 HB); (case side2 => exact HC0_1.out); (case side3 => exact cb9 HR1 HB); (case side4 => exact HC1.out); rintro e w9 ⟨v132, rfl, ho0, hb⟩; refine ⟨_, rfl, ?_⟩; have HO133 := Aside0.mk (Kd.R_lower ho0 (sz9 HB)); replace BK130 := bb9 BK130 hb; replace HB := bs9 HB hb; (try clear hb); (try clear ho0); obtain ⟨Ao10, co10, eo10⟩ := Kd.R_slice HO133.out; subst eo10) | ((with_reducible refine gate_dst (N := 24) rfl ?_); refine Kd.R_make Kd.bool _ 4 rfl (N := 24) rfl 36 _ _ rfl (t131.length : Int) rfl rfl Try.underlying36 (.bool false) 1 info4 rfl (by decide) (by omega) false (ok := fun _ => True) (okp := fun _ => True) rfl (fun _ hk => hk) trivial od9 (Nat.le_trans (Nat.mul_le_mul_right _ (od9 : (t131.length : Int).toNat ≤ 281474976710656)) (by omega)) (Below.refl _ _) (Nat.le_refl _) ?_; intro v136 w11 ho12 hb hg_ hnew_; clear hg_ hnew_; (first | rw [← Ny135.out] at ho12 | (simp only [Int.reduceToNat] at ho12; rw [← Ny135.out] at ho12)); have HO137 := Aside0.mk (Kd.R_lower ho12 (sz9 HB)); replace HO133 := rb9 HO133 hb; replace BK130 := bb9 BK130 hb; replace HB := bs9 HB hb; clear hb ho12))
    go_loopg [9, 27] k (fun kq v9 v27 w' => ∃ (x8_1 : List Bool) (x9_1 : List (List Int)) (x27_1 : Int), v27 = .int .i64 x27_1 ∧ Aside0 (faces_Of.l0 kq t131 x8_1 x9_1 (t131.length : Int) x27_1 = some (r1, r2)) ∧ Aside0 (kq ≤ k) ∧ Aside0 (Kd.R (Kd.int .i64) 3 w' w.heap.size (fun _ => True) (.slice Ao10 t131.length co10) t131) ∧ Aside0 (Kd.R Kd.bool 4 w' w.heap.size (fun _ => True) v136 x8_1) ∧ Aside0 (Kd.S (Kd.slice 3 (Kd.int .i64)) 27 w' w.heap.size (fun k_ => some k_ ≠ ((.slice Ao10 t131.length co10) : Value).ownBlock) v9 x9_1) ∧ Aside0 (w'.heap[gb130]? = some (.cells #[.int .i64 a0_0, (.slice A0_1 l0_1.length c0_1)] 24 (0, 0))) ∧ Aside0 (Below w.heap.size w w'))
    case atStart => exact ⟨(y135), (([] : List (List Int))), (0), an9, H', ⟨Nat.le_refl _⟩, ⟨ro9 HO133⟩, ⟨ro9 HO137⟩, ⟨by first | exact Kd.S_nil _ _ _ _ _ | exact Kd.N_nil _ _ _ _ _ | exact Kd.V_nil _ _ _ _ _ | exact Kd.Q_nil _ _ _ _ _ | exact Kd.R_nil _ _ _ _ _⟩, bk9 BK130, ⟨bl9 HB⟩⟩
    case round =>
     clear H'
     try clear c1
     try clear p2
     try clear c4
     try clear c4b0
     try clear c4b1
     try clear c5
     try clear c5b0
     try clear c5b1
     try clear c6
     try clear c6b0
     try clear c6b1
     try clear hcz8_0
     try clear hcz8_1
     try clear hfz8_0
     try clear hfz8_1
     obtain ⟨x8_1, x9_1, x27_1, rfl, HA, HK1, HO_6, HO_8, HO_9, BK130, HB⟩ := hrel
     cases gk with
     | zero => exact absurd HA.out (by simp [faces_Of.l0])
     | succ k1 =>
      have H := HA.out
      clear HA
      simp only [faces_Of.l0] at H
      by_cases c13 : x27_1 < (t131.length : Int)
      ·rw [if_pos c13] at H
       have c13b0 : decide (x27_1 < (t131.length : Int)) = true := decide_eq_true c13
       clear c13
       have H' := Aside0.mk H
       clear H
       go_wp2
       go_loopg [11, 12] k1 (fun kq v11 v12 w' => ∃ (x8_2 : List Bool) (x11_2 : List Int) (x12_2 : Int), v12 = .int .i64 x12_2 ∧ Aside0 (faces_Of.l1 kq t131 x8_2 x9_1 x11_2 x12_2 (t131.length : Int) x27_1 = some (r1, r2)) ∧ Aside0 (kq ≤ k1) ∧ Aside0 (Kd.R (Kd.int .i64) 3 w' w.heap.size (fun k_ => some k_ ≠ (v11 : Value).ownBlock) (.slice Ao10 t131.length co10) t131) ∧ Aside0 (Kd.R Kd.bool 4 w' w.heap.size (fun _ => True) v136 x8_2) ∧ Aside0 (Kd.S (Kd.slice 3 (Kd.int .i64)) 27 w' w.heap.size (fun k_ => some k_ ≠ ((.slice Ao10 t131.length co10) : Value).ownBlock ∧ some k_ ≠ (v11 : Value).ownBlock) u9 x9_1) ∧ Aside0 (Kd.R (Kd.int .i64) 3 w' w.heap.size (fun k_ => some k_ ≠ ((.slice Ao10 t131.length co10) : Value).ownBlock) v11 x11_2) ∧ Aside0 (w'.heap[gb130]? = some (.cells #[.int .i64 a0_0, (.slice A0_1 l0_1.length c0_1)] 24 (0, 0))) ∧ Aside0 (Below w.heap.size w w'))
       case atStart => exact ⟨(x8_1), (([] : List Int)), (x27_1), an9, H', ⟨Nat.le_refl _⟩, ⟨by (with_reducible repeat (first | apply Kd.R_alloc | apply Kd.R_drewN | apply Kd.R_drew)); exact Kd.R_mono HO_6.out (fun _ hk => (by simp [Value.ownBlock]))⟩, ⟨ro9 HO_8⟩, ⟨by (with_reducible repeat (first | apply Kd.S_alloc | apply Kd.S_drewN | apply Kd.S_drew)); exact Kd.S_mono HO_9.out (fun _ hk => ⟨hk, (by simp [Value.ownBlock])⟩)⟩, ⟨by first | exact Kd.R_nil _ _ _ _ _ | exact Kd.N_nil _ _ _ _ _ | exact Kd.V_nil _ _ _ _ _ | exact Kd.Q_nil _ _ _ _ _ | exact Kd.S_nil _ _ _ _ _⟩, bk9 BK130, ⟨bl9 HB⟩⟩
       case round =>
        clear H'
        try clear c1
        try clear p2
        try clear c4
        try clear c4b0
        try clear c4b1
        try clear c5
        try clear c5b0
        try clear c5b1
        try clear c6
        try clear c6b0
        try clear c6b1
        try clear c13
        try clear c13b0
        try clear hcz8_0
        try clear hcz8_1
        try clear hfz8_0
        try clear hfz8_1
        try clear p2
        obtain ⟨x8_2, x11_2, x12_2, rfl, HA, HK2, HO_6, HO_8, HO_9, HO_11, BK130, HB⟩ := hrel
        cases gk with
        | zero => exact absurd HA.out (by simp [faces_Of.l1])
        | succ k2 =>
         have H := HA.out
         clear HA
         simp only [faces_Of.l1] at H
         by_cases c14 : 0 ≤ x12_2
         ·rw [if_pos c14] at H
          have c14b0 : decide (0 ≤ x12_2) = true := decide_eq_true c14
          clear c14
          by_cases c15 : x12_2 < (x8_2.length : Int)
          ·rw [if_pos c15] at H
           have c15b0 : decide (x12_2 < (x8_2.length : Int)) = true := decide_eq_true c15
           clear c15
           obtain ⟨bq16, hbq16⟩ : ∃ b_ : Bool, b_ = (rdOf false x8_2 x12_2) := ⟨_, rfl⟩
           replace H : (if bq16 = true then (if (x11_2.length : Int) > 0 then (if x9_1.length < 5864062014805 then (faces_Of.l0 k2 t131 x8_2 (x9_1 ++ [x11_2]) (t131.length : Int) (wrap64 (x27_1 + 1))) else (none)) else (faces_Of.l0 k2 t131 x8_2 x9_1 (t131.length : Int) (wrap64 (x27_1 + 1)))) else (if x11_2.length < 17592186044416 then (if 0 ≤ (Go.bits .xor .i64 x12_2 1) then (if (Go.bits .xor .i64 x12_2 1) < (t131.length : Int) then (faces_Of.l1 k2 t131 (x8_2.set (x12_2 : Int).toNat true) x9_1 (x11_2 ++ [x12_2]) (rd t131 (Go.bits .xor .i64 x12_2 1)) (t131.length : Int) x27_1) else (none)) else (none)) else (none))) = some (r1, r2) := by rw [← hbq16] at H; exact H
           have Nbq16 := Aside0.mk hbq16
           clear hbq16
           by_cases c17 : bq16 = true
           ·subst c17
            rw [if_pos rfl] at H
            by_cases c18 : (x11_2.length : Int) > 0
            ·rw [if_pos c18] at H
             have c18b0 : decide (0 < (x11_2.length : Int)) = true := decide_eq_true c18
             have c18b1 : decide (0 < x11_2.length) = true := decide_eq_true (by omega)
             clear c18
             by_cases c19 : x9_1.length < 5864062014805
             ·rw [if_pos c19] at H
              have LMc19 := Aside0.mk c19
              clear c19
              obtain ⟨y139, hy139⟩ : ∃ y_ : List (List Int), y_ = (x9_1 ++ [x11_2]) := ⟨_, rfl⟩
              replace H : (faces_Of.l0 k2 t131 x8_2 y139 (t131.length : Int) (wrap64 (x27_1 + 1))) = some (r1, r2) := by first | (rw [hy139]; exact H) | exact H
              have Ny139 := Aside0.mk hy139
              clear hy139
              have H' := Aside0.mk H
              clear H
              obtain ⟨Ao20, co20, eo20⟩ := Kd.R_slice HO_8.out
              subst eo20
              have p138 : 0 ≤ (x12_2 : Int) := od9
              have q138 : x12_2 < (x8_2.length : Int) := od9
              obtain ⟨ad138, e138, hx138_0⟩ := Kd.at_bool (Kd.R_reads' HO_8.out).2.2 x12_2 p138 q138
              (try rw [← Nbq16.out] at hx138_0)
              cases e138
              replace p138 := eq_true p138
              replace q138 := eq_true q138
              obtain ⟨Ao21, co21, eo21⟩ := Kd.R_slice HO_11.out
              subst eo21
              go_wp2_with (first | ((with_reducible refine gate_builtin (b := .append) (xs := #[.tmp 51, .tmp 53]) rfl ?_); at_builtin; refine Kd.S_append (Kd.slice 3 (Kd.int .i64)) (w0 := w) w.heap.size rfl (.tmp 51) (.tmp 53) 25 27 (.slice none 0 0) 24 rfl Try.underlying25 info27 rfl (by decide) (by omega) u9 x9_1 x11_2 [.slice Ao21 x11_2.length co21] (fun k_ => some k_ ≠ (.slice Ao10 t131.length co10 : Value).ownBlock) (fun k_ => some k_ = (.slice Ao21 x11_2.length co21 : Value).ownBlock) rfl rfl ?aP (fun k_ hk_ => ((Kd.R_mono (ok' := fun k_ => ((fun k_ => some k_ ≠ (.slice Ao10 t131.length co10 : Value).ownBlock)) k_ ∧ some k_ ≠ (u9 : Value).ownBlock) (Kd.R_apart' (HO_11.out) (Kd.S_typed HO_9.out) (by decide)) (fun k_ hk => ⟨hk.1, hk.2⟩))).1 k_ hk_.symm) ?aF ?aO ?aB ?aS ?aL ?_; (case aP => exact Kd.M_row (Kd.R_mono (Kd.R_tight rfl (Kd.R_mono (ok' := fun k_ => ((fun k_ => some k_ ≠ (.slice Ao10 t131.length co10 : Value).ownBlock)) k_ ∧ some k_ ≠ (u9 : Value).ownBlock) (Kd.R_apart' (HO_11.out) (Kd.S_typed HO_9.out) (by decide)) (fun k_ hk => ⟨hk.1, hk.2⟩))) (fun _ h_ => h_))); (case aB => exact (bl9 HB)); (case aF => exact (fun k_ hk => Kd.fresh' (Kd.R_lt (ro9 HO_6)) k_ hk)); (case aO => exact (by (with_reducible repeat (first | apply Kd.S_alloc | apply Kd.S_drewN | apply Kd.S_drew)); exact Kd.S_mono HO_9.out (fun k_ hk => ⟨hk.1, fun e_ => hk.2 e_⟩))); (case aS => exact (sz9 HB)); (case aL => have := LMc19.out; omega); intro v140 w22 ho hb hg hat; rw [← Ny139.out] at ho; have HO141 := Aside0.mk (ho); replace HO_6 := Aside0.mk (Kd.R_over' (ro9 HO_6) (Kd.S_typed (by (with_reducible repeat (first | apply Kd.S_alloc | apply Kd.S_drewN | apply Kd.S_drew)); exact HO_9.out)) (by decide) hg); replace HO_8 := Aside0.mk (Kd.R_over' (ro9 HO_8) (Kd.S_typed (by (with_reducible repeat (first | apply Kd.S_alloc | apply Kd.S_drewN | apply Kd.S_drew)); exact HO_9.out)) (by decide) hg); replace BK130 := Aside0.mk (blk_grown (g := gb130) (o := .cells #[.int .i64 a0_0, .slice A0_1 l0_1.length c0_1] 24 (0, 0)) (by (with_reducible repeat (first | refine blk_drewN ?_ _ | refine blk_drew ?_ | refine blk_alloc ?_ _)); exact BK130.out) hg (Kd.S_ne HO_9.out BK130.out (by decide))); replace HB := Aside0.mk (hb); clear HO_11 HO_9; clear ho hb hg hat))
              go_roundg k2
              case measure => have := HK1.out; have := HK2.out; omega
              case rel => exact ⟨(x8_2), (y139), (wrap64 (x27_1 + 1)), an9, H', ⟨by have := HK1.out; have := HK2.out; omega⟩, ⟨by (with_reducible repeat (first | apply Kd.R_alloc | apply Kd.R_drewN | apply Kd.R_drew)); exact Kd.R_mono HO_6.out (fun _ hk => trivial)⟩, ⟨ro9 HO_8⟩, ⟨by (with_reducible repeat (first | apply Kd.S_alloc | apply Kd.S_drewN | apply Kd.S_drew)); exact HO141.out⟩, bk9 BK130, ⟨bl9 HB⟩⟩
             ·rw [if_neg c19] at H
              exact absurd H (by simp)
            ·rw [if_neg c18] at H
             have c18b0 : decide (0 < (x11_2.length : Int)) = false := decide_eq_false c18
             have c18b1 : decide (0 < x11_2.length) = false := decide_eq_false (by omega)
             clear c18
             have H' := Aside0.mk H
             clear H
             obtain ⟨Ao23, co23, eo23⟩ := Kd.R_slice HO_8.out
             subst eo23
             have p138 : 0 ≤ (x12_2 : Int) := od9
             have q138 : x12_2 < (x8_2.length : Int) := od9
             obtain ⟨ad138, e138, hx138_0⟩ := Kd.at_bool (Kd.R_reads' HO_8.out).2.2 x12_2 p138 q138
             (try rw [← Nbq16.out] at hx138_0)
             cases e138
             replace p138 := eq_true p138
             replace q138 := eq_true q138
             obtain ⟨Ao24, co24, eo24⟩ := Kd.R_slice HO_11.out
             subst eo24
             go_wp2
             go_roundg k2
             case measure => have := HK1.out; have := HK2.out; omega
             case rel => exact ⟨(x8_2), (x9_1), (wrap64 (x27_1 + 1)), an9, H', ⟨by have := HK1.out; have := HK2.out; omega⟩, ⟨by (with_reducible repeat (first | apply Kd.R_alloc | apply Kd.R_drewN | apply Kd.R_drew)); exact Kd.R_mono HO_6.out (fun _ hk => trivial)⟩, ⟨ro9 HO_8⟩, ⟨by (with_reducible repeat (first | apply Kd.S_alloc | apply Kd.S_drewN | apply Kd.S_drew)); exact Kd.S_mono HO_9.out (fun _ hk => hk.1)⟩, bk9 BK130, ⟨bl9 HB⟩⟩
           ·replace c17 := Bool.eq_false_iff.mpr c17
            subst c17
            rw [if_neg (show ¬ (false = true) by decide)] at H
            obtain ⟨y142, hy142⟩ : ∃ y_ : List Bool, y_ = (x8_2.set (x12_2 : Int).toNat true) := ⟨_, rfl⟩
            replace H : (if x11_2.length < 17592186044416 then (if 0 ≤ (Go.bits .xor .i64 x12_2 1) then (if (Go.bits .xor .i64 x12_2 1) < (t131.length : Int) then (faces_Of.l1 k2 t131 y142 x9_1 (x11_2 ++ [x12_2]) (rd t131 (Go.bits .xor .i64 x12_2 1)) (t131.length : Int) x27_1) else (none)) else (none)) else (none)) = some (r1, r2) := by first | (rw [hy142]; exact H) | exact H
            have Ny142 := Aside0.mk hy142
            clear hy142
            by_cases c26 : x11_2.length < 17592186044416
            ·rw [if_pos c26] at H
             have LMc26 := Aside0.mk c26
             clear c26
             obtain ⟨y143, hy143⟩ : ∃ y_ : List Int, y_ = (x11_2 ++ [x12_2]) := ⟨_, rfl⟩
             replace H : (if 0 ≤ (Go.bits .xor .i64 x12_2 1) then (if (Go.bits .xor .i64 x12_2 1) < (t131.length : Int) then (faces_Of.l1 k2 t131 y142 x9_1 y143 (rd t131 (Go.bits .xor .i64 x12_2 1)) (t131.length : Int) x27_1) else (none)) else (none)) = some (r1, r2) := by first | (rw [hy143]; exact H) | exact H
             have Ny143 := Aside0.mk hy143
             clear hy143
             by_cases c27 : 0 ≤ (Go.bits .xor .i64 x12_2 1)
             ·rw [if_pos c27] at H
              have c27b0 : decide (0 ≤ (Go.bits .xor .i64 x12_2 1)) = true := decide_eq_true c27
              clear c27
              by_cases c28 : (Go.bits .xor .i64 x12_2 1) < (t131.length : Int)
              ·rw [if_pos c28] at H
               have c28b0 : decide ((Go.bits .xor .i64 x12_2 1) < (t131.length : Int)) = true := decide_eq_true c28
               clear c28
               have H' := Aside0.mk H
               clear H
               obtain ⟨Ao29, co29, eo29⟩ := Kd.R_slice HO_8.out
               subst eo29
               have p138 : 0 ≤ (x12_2 : Int) := od9
               have q138 : x12_2 < (x8_2.length : Int) := od9
               obtain ⟨ad138, e138, hx138_0⟩ := Kd.at_bool (Kd.R_reads' HO_8.out).2.2 x12_2 p138 q138
               (try rw [← Nbq16.out] at hx138_0)
               cases e138
               replace p138 := eq_true p138
               replace q138 := eq_true q138
               have p25 : 0 ≤ (x12_2 : Int) := od9
               have q25 : (x12_2 : Int) < ((x8_2.length : Int) : Int) := od9
               obtain ⟨go25, co25, eo25, gb25, gl25, cl25, HG25⟩ := Kd.R_form HO_8.out (by omega)
               (first | cases eo25 | (injection eo25 with ea_ en_ ec_; (first | subst ea_ | (injection ea_ with ea_; subst ea_)); subst ec_; clear en_))
               have GB25 := Aside0.mk gb25
               have GG25 := Aside0.mk HG25
               clear gb25 gl25 HG25
               (first | simp only [add_plain] at hx138_0 | skip)
               obtain ⟨hx25_0, hf25_0⟩ := Kd.R_celln false HO_8.out (x12_2 : Int) p25 q25
               replace p25 := eq_true p25
               replace q25 := eq_true q25
               have HP30 := Kd.R_putg HO_8.out (x12_2 : Int) true
               go_wp2_with (first | ((with_reducible refine gate_store (t := 4) (p := 43) rfl ?_); refine store_event (t := 4) (p := 43) (v := ?vo_w31) (w1 := (wr.setCell ⟨go25, (x12_2 : Int).toNat, none⟩ (.bool true))) ?hg ?ho ?hn ?hr ?_; (case ho => rfl); (case hg => rfl); (case hn => rfl); (case hr => first | (go_simp; done) | (go_simp; rfl)); intro w31 hw; have hg : wr.grownBy w31 (some go25) := (by rw [hw]; exact HP30.2); have hp_ : Kd.R Kd.bool 4 w31 w.heap.size (fun _ => True) (.slice (some ⟨go25, 0, none⟩) x8_2.length co29) y142 := (by rw [hw, Ny142.out]; exact HP30.1); clear HP30; replace HO_6 := Aside0.mk (Kd.R_over' (v := (.slice (some ⟨go25, 0, none⟩) x8_2.length co29)) (ro9 HO_6) (Kd.R_typed HO_8.out) (by decide) hg); replace HO_9 := Aside0.mk (Kd.S_over' (v := (.slice (some ⟨go25, 0, none⟩) x8_2.length co29)) (by (with_reducible repeat (first | apply Kd.S_alloc | apply Kd.S_drewN | apply Kd.S_drew)); exact HO_9.out) (Kd.R_typed HO_8.out) (by decide) hg); replace HO_11 := Aside0.mk (Kd.R_over' (v := (.slice (some ⟨go25, 0, none⟩) x8_2.length co29)) (ro9 HO_11) (Kd.R_typed HO_8.out) (by decide) hg); replace BK130 := Aside0.mk (blk_grown (g := gb130) (o := .cells #[.int .i64 a0_0, .slice A0_1 l0_1.length c0_1] 24 (0, 0)) (by (with_reducible repeat (first | refine blk_drewN ?_ _ | refine blk_drew ?_ | refine blk_alloc ?_ _)); exact BK130.out) hg (Kd.R_ne HO_8.out BK130.out (by decide))); replace HO_8 := Aside0.mk (hp_); replace HB := Aside0.mk ((by rw [hw]; exact below_set (HB.out) GB25.out : Below w.heap.size w w31)); clear hg hw hp_) | ((with_reducible refine gate_builtin (b := .append) (xs := #[.tmp 44, .tmp 46]) rfl ?_); at_builtin; refine Kd.R_append (Kd.int .i64) (w0 := w) w.heap.size rfl (.tmp 44) (.tmp 46) 27 3 (.int .i64 0) 8 rfl Try.underlying27 info3 rfl (by decide) (by omega) u11 x11_2 x12_2 [.int .i64 x12_2] (fun k_ => some k_ ≠ (.slice Ao10 t131.length co10 : Value).ownBlock) (fun _ => False) rfl rfl ?aP (fun _ hk => hk.elim) ?aF ?aO ?aB ?aS ?aL ?_; (case aP => exact rfl); (case aB => exact (bl9 HB)); (case aF => exact (fun k_ hk => Kd.fresh' (Kd.R_lt (ro9 HO_6)) k_ hk)); (case aO => exact (ro9 HO_11)); (case aS => exact (sz9 HB)); (case aL => have := LMc26.out; omega); intro v144 w32 ho hb hg hat; rw [← Ny143.out] at ho; have HO145 := Aside0.mk (ho); replace HO_6 := Aside0.mk (Kd.R_after (ok := (fun _ => True)) (by (with_reducible repeat (first | apply Kd.R_alloc | apply Kd.R_drewN | apply Kd.R_drew)); exact Kd.R_mono HO_6.out (fun _ hk => ⟨trivial, hk⟩)) hg hat); replace HO_8 := Aside0.mk (Kd.R_over' (ro9 HO_8) (Kd.R_typed (ro9 HO_11)) (by decide) hg); replace HO_9 := Aside0.mk (Kd.S_after (ok := (fun k_ => some k_ ≠ (.slice Ao10 t131.length co10 : Value).ownBlock)) (by (with_reducible repeat (first | apply Kd.S_alloc | apply Kd.S_drewN | apply Kd.S_drew)); exact HO_9.out) hg hat); replace BK130 := Aside0.mk (blk_grown (g := gb130) (o := .cells #[.int .i64 a0_0, .slice A0_1 l0_1.length c0_1] 24 (0, 0)) (by (with_reducible repeat (first | refine blk_drewN ?_ _ | refine blk_drew ?_ | refine blk_alloc ?_ _)); exact BK130.out) hg (Kd.R_ne HO_11.out BK130.out (by decide))); replace HB := Aside0.mk (hb); clear HO_11; clear ho hb hg hat; have p146 : 0 ≤ ((Go.bits .xor .i64 x12_2 1) : Int) := od9; have q146 : (Go.bits .xor .i64 x12_2 1) < (t131.length : Int) := od9; obtain ⟨ad146, e146, hx146_0⟩ := Kd.at_int (Kd.R_reads' HO_6.out).2.2 (Go.bits .xor .i64 x12_2 1) p146 q146; cases e146; replace p146 := eq_true p146; replace q146 := eq_true q146))
               go_roundg k2
               case measure => have := HK1.out; have := HK2.out; omega
               case rel => exact ⟨(y142), (y143), (rd t131 (Go.bits .xor .i64 x12_2 1)), an9, H', ⟨by have := HK1.out; have := HK2.out; omega⟩, ⟨by (with_reducible repeat (first | apply Kd.R_alloc | apply Kd.R_drewN | apply Kd.R_drew)); exact Kd.R_mono HO_6.out (fun _ hk => hk.2)⟩, ⟨ro9 HO_8⟩, ⟨by (with_reducible repeat (first | apply Kd.S_alloc | apply Kd.S_drewN | apply Kd.S_drew)); exact HO_9.out⟩, ⟨ro9 HO145⟩, bk9 BK130, ⟨bl9 HB⟩⟩
              ·rw [if_neg c28] at H
               exact absurd H (by simp)
             ·rw [if_neg c27] at H
              exact absurd H (by simp)
            ·rw [if_neg c26] at H
             exact absurd H (by simp)
          ·rw [if_neg c15] at H
           exact absurd H (by simp)
         ·rw [if_neg c14] at H
          exact absurd H (by simp)
      ·rw [if_neg c13] at H
       have c13b0 : decide (x27_1 < (t131.length : Int)) = false := decide_eq_false c13
       clear c13
       simp only [Option.some.injEq, Prod.mk.injEq] at H
       obtain ⟨rfl, rfl⟩ := H
       go_wp2
       go_ret2
       exact ⟨_, er9, by (with_reducible repeat (first | apply Kd.S_alloc | apply Kd.S_drewN | apply Kd.S_drew)); exact Kd.S_mono HO_9.out (fun _ hk => trivial), bl9 HB⟩
   ·rw [if_neg c6] at H
    exact absurd H (by simp)
  ·rw [if_neg c5] at H
   exact absurd H (by simp)
 ·rw [if_neg c4] at H
  have c4b0 : (t134 == 0) = false := beq_eq_false_iff_ne.mpr c4
  have c4b1 : (t134 != 0) = true := bne_iff_ne.mpr c4
  simp only [Option.some.injEq, Prod.mk.injEq] at H
  obtain ⟨rfl, rfl⟩ := H
  go_enter Try.func62, Try.ntmps62
  go_wp2_with (first | ((with_reducible refine gate_dst (N := 2) rfl ?_); refine bx9 (N := 2) (cs := #[.int .i64 a0_0, .slice A0_1 l0_1.length c0_1]) (t := 24) ?_; intro gb130 hg w33 hbox hb; have BK130 := Aside0.mk (hbox); have GW130 := gw9 HB hg; have GE130 := gw9 HB hg; replace HB := bs9 HB hb; clear hb hbox hg; have hcz34_0 := cz9 BK130 0; have hcz34_1 := cz9 BK130 1; have hfz34_0 := blk_frozen BK130.out 0; have hfz34_1 := blk_frozen BK130.out 1) | ((with_reducible refine gate_callee (f := 46) rfl ?_); refine gL9 (some 16) Try.func46 #[.agg #[.int .i64 a0_0, .slice A0_1 l0_1.length c0_1], .slice A1 l1.length c1] ?_; (with_reducible refine (rot_Next.calls k a0_0 _ _ l0_1 _ _ l1 t131 t134 _ ?side1 ?side2 ?side3 ?side4 A3.out).mono ?_); (case side1 => exact cb9 HR0_1 HB); (case side2 => exact HC0_1.out); (case side3 => exact cb9 HR1 HB); (case side4 => exact HC1.out); rintro e w35 ⟨v132, rfl, ho0, hb⟩; refine ⟨_, rfl, ?_⟩; have HO133 := Aside0.mk (Kd.R_lower ho0 (sz9 HB)); replace BK130 := bb9 BK130 hb; replace HB := bs9 HB hb; (try clear hb); (try clear ho0)))
  go_ret2
  exact ⟨_, er9, by first | exact Kd.S_nil _ _ _ _ _ | exact Kd.N_nil _ _ _ _ _ | exact Kd.V_nil _ _ _ _ _ | exact Kd.Q_nil _ _ _ _ _ | exact Kd.R_nil _ _ _ _ _, bl9 HB⟩
end GAll
namespace Rot
open GAll Mem Ring Face
theorem wad {i : Nat} (h : i ≤ 900000000) : wrap64 ((i : Int) + 1) = ((i + 1 : Nat) : Int) := by rw [IntWalk.wrap64_in _ (by omega)]; omega
section
variable {n : Nat} {l : List Ed} {r : List (List Int)}
theorem goFace_go {st : List Int} {m : Nat} {T : List Bool} {fc : List Int} {k : Int} (h : gb T k.toNat = false) : goFace st (m + 1) T fc k = goFace st m (T.set k.toNat true) (fc ++ [k]) (gi st k.toNat) := by
 conv => lhs; unfold goFace
 rw [if_neg (by rw [h]; simp)]
theorem goFace_stop {st : List Int} {m : Nat} {T : List Bool} {fc : List Int} {k : Int} (h : gb T k.toNat = true) : goFace st m T fc k = (T, fc) := by
 cases m with
 | zero => rfl
 | succ m =>
  conv => lhs; unfold goFace
  rw [if_pos h]
theorem gi_ge {st : List Int} {m : Nat} : ∀ (T : List Bool) (fc : List Int) (k : Int), fc.length ≤ (goFace st m T fc k).2.length := by
 induction m with
 | zero => intro T fc k; exact Nat.le_refl _
 | succ m ih =>
  intro T fc k
  unfold goFace
  split
  ·exact Nat.le_refl _
  ·have := ih (T.set k.toNat true) (fc ++ [k]) (gi st k.toNat)
   simp at this; omega
theorem walk_ev (hm : IsMap n l r) {out : List (List Int)} {h : Nat} {res : List (List Int) × Int} (ho : out.length ≤ 8388608) (hh : h < 2 * l.length) :
  ∀ (m : Nat) (T : List Bool) (fc : List Int) (k : Nat), T.length = 2 * l.length → left T ≤ m → k < 2 * l.length → fc.length + m ≤ 2 * l.length →
   Ev (fun q => faces_Of.l0 q (nxOf l r) (goFace (stOf l r) m T fc (k : Int)).1 (if 0 < (goFace (stOf l r) m T fc (k : Int)).2.length then out ++ [(goFace (stOf l r) m T fc (k : Int)).2] else out) ((nxOf l r).length : Int) ((h + 1 : Nat) : Int)) res →
   Ev (fun q => faces_Of.l1 q (nxOf l r) T out fc (k : Int) ((nxOf l r).length : Int) (h : Int)) res := by
 have hll := hm.good.2.2.1
 have hlen := hm.len
 have key : ∀ (m : Nat) (T : List Bool) (fc : List Int) (k : Nat), T.length = 2 * l.length → k < 2 * l.length → gb T k = true → Ev (fun q => faces_Of.l0 q (nxOf l r) (goFace (stOf l r) m T fc (k : Int)).1 (if 0 < (goFace (stOf l r) m T fc (k : Int)).2.length then out ++ [(goFace (stOf l r) m T fc (k : Int)).2] else out) ((nxOf l r).length : Int) ((h + 1 : Nat) : Int)) res →
   Ev (fun q => faces_Of.l1 q (nxOf l r) T out fc (k : Int) ((nxOf l r).length : Int) (h : Int)) res := by
  intro m T fc k hT hk hg H
  rw [goFace_stop (by rw [Int.toNat_natCast]; exact hg)] at H
  refine Ev.step (fun q => ?_) H
  simp only [faces_Of.l1]
  change (if 0 ≤ (k : Int) then (if (k : Int) < (T.length : Int) then (if gb T ((k : Int).toNat) = true then _ else _) else _) else _) = _
  rw [if_pos (by omega), if_pos (by omega), Int.toNat_natCast, if_pos hg, wad (by omega)]
  by_cases c : 0 < fc.length
  ·rw [if_pos (by omega), if_pos (by omega), if_pos c]
  ·rw [if_neg (by omega), if_neg c]
 intro m
 induction m with
 | zero =>
  intro T fc k hT hl hk hf H
  exact key 0 T fc k hT hk (left_zero (by omega) (by omega)) H
 | succ m ih =>
  intro T fc k hT hl hk hf H
  cases hg : gb T k with
  | true => exact key (m + 1) T fc k hT hk hg H
  | false =>
   rw [goFace_go (by rw [Int.toNat_natCast]; exact hg), Int.toNat_natCast, gi_stOf hk, hm.nxf_eq (twn_lt hk)] at H
   have hls := left_set T k (by omega) hg
   have hin := hm.steps.inn k (by rw [stOf_length]; exact hk)
   rw [stOf_length, stf_eq hk] at hin
   refine Ev.step (fun q => ?_) (ih (T.set k true) (fc ++ [(k : Int)]) (nxf l r (twn k)) (by rw [List.length_set]; exact hT) (by omega) hin (by simp; omega) H)
   have ht := tw_twn (h := k) (by omega)
   have htl := twn_lt hk
   simp only [faces_Of.l1]
   change (if 0 ≤ (k : Int) then (if (k : Int) < (T.length : Int) then (if gb T ((k : Int).toNat) = true then _ else _) else _) else _) = _
   rw [if_pos (by omega), if_pos (by omega), Int.toNat_natCast, if_neg (by rw [hg]; simp), if_pos (by omega), ht, if_pos (by omega), if_pos (by omega), gi_rd, hm.nxf_eq htl]
theorem of_loop (hm : IsMap n l r) (d : Nat) : ∀ h : Nat, h + d = 2 * l.length → Ev (fun q => faces_Of.l0 q (nxOf l r) (facesTo (stOf l r) (2 * l.length) h).1 (facesTo (stOf l r) (2 * l.length) h).2 ((nxOf l r).length : Int) (h : Int)) (facesL (stOf l r), 0) := by
 have hll := hm.good.2.2.1
 have hlen := hm.len
 induction d with
 | zero =>
  intro h hh
  obtain rfl : h = 2 * l.length := by omega
  refine Ev.step (f := fun _ => some (facesL (stOf l r), 0)) (fun q => ?_) (Ev.now _)
  simp only [faces_Of.l0]
  rw [if_neg (by omega)]
  unfold facesL
  rw [stOf_length]
 | succ d ih =>
  intro h hh
  have H := ih (h + 1) (by omega)
  obtain ⟨f1, f2⟩ := facesTo_len (stOf l r) (2 * l.length) h
  refine Ev.step (fun q => ?_) (walk_ev hm (out := (facesTo (stOf l r) (2 * l.length) h).2) (h := h) (res := (facesL (stOf l r), 0)) (by omega) (by omega) (2 * l.length) (facesTo (stOf l r) (2 * l.length) h).1 [] h f1 (by have := left_le (facesTo (stOf l r) (2 * l.length) h).1; omega) (by omega) (by simp) ?_)
  ·simp only [faces_Of.l0]
   rw [if_pos (by omega)]
  ·unfold facesTo at H
   cases hg : gb (facesTo (stOf l r) (2 * l.length) h).1 h with
   | true =>
    rw [if_pos hg] at H
    rw [goFace_stop (by rw [Int.toNat_natCast]; exact hg)]
    simpa using H
   | false =>
    rw [if_neg (by rw [hg]; simp)] at H
    obtain ⟨m, hmm⟩ : ∃ m, 2 * l.length = m + 1 := ⟨2 * l.length - 1, by omega⟩
    have hp : 0 < (goFace (stOf l r) (2 * l.length) (facesTo (stOf l r) (2 * l.length) h).1 [] (h : Int)).2.length := by
     generalize (facesTo (stOf l r) (2 * l.length) h).1 = T at hg
     rw [hmm, goFace_go (by rw [Int.toNat_natCast]; exact hg)]
     have := gi_ge (st := stOf l r) (m := m) (T.set ((h : Int).toNat) true) ([] ++ [(h : Int)]) (gi (stOf l r) ((h : Int).toNat))
     simp at this ⊢; omega
    rw [if_pos hp]
    exact H
theorem next_bad {v e : Int} {a : Int} (he : e ≠ 0) (h : Ev (fun k => rot_Check.f k a l r) (v, e)) : Ev (fun k => rot_Next.f k a l r) ([], e) := by
 unfold rot_Next.f
 exact Ev.bind h (Ev.congr (fun k => if_neg he) (Ev.now _))
theorem of_bad {v e : Int} {a : Int} (he : e ≠ 0) (h : Ev (fun k => rot_Check.f k a l r) (v, e)) : Ev (fun k => faces_Of.f k a l r) ([], e) := by
 unfold faces_Of.f
 exact Ev.bind (next_bad he h) (Ev.congr (fun k => if_neg he) (Ev.now _))
theorem of_ok (hm : IsMap n l r) (h : Ev (fun k => rot_Check.f k (n : Int) l r) (0, 0)) : Ev (fun k => faces_Of.f k (n : Int) l r) (facesL (stOf l r), 0) := by
 have hlen := hm.len
 have hll := hm.good.2.2.1
 have H := of_loop hm (2 * l.length) 0 (by omega)
 unfold faces_Of.f
 refine Ev.bind (next_ev hm h) (Ev.congr (fun k => ?_) H)
 simp only
 rw [if_pos trivial, if_pos (by omega), if_pos (by omega)]
 show faces_Of.l0 k _ (List.replicate ((nxOf l r).length : Int).toNat false) [] _ 0 = _
 rw [Int.toNat_natCast, hlen]
 rfl
theorem faces_mem (hm : IsMap n l r) {F : List (List Nat)} (hF : Faces (stf l r) (2 * l.length) F) {L : List Nat} (hL : L ∈ F) : ∀ x ∈ L, x < 2 * l.length := fun x hx => by
 have := hF.perm.mem_iff.1 (List.mem_flatten.2 ⟨L, hL, hx⟩)
 rwa [List.mem_range] at this
theorem len_le_flat : ∀ (F : List (List Nat)), (∀ L ∈ F, L ≠ []) → F.length ≤ F.flatten.length
 | [], _ => Nat.le_refl _
 | L :: F, h => by
  have ih := len_le_flat F (fun M hM => h M (List.mem_cons_of_mem _ hM))
  have := List.length_pos_iff.2 (h L (List.mem_cons_self ..))
  rw [List.flatten_cons, List.length_append, List.length_cons]; omega
theorem one_le_flat {F : List (List Nat)} {L : List Nat} (h : L ∈ F) : L.length ≤ F.flatten.length := by
 obtain ⟨s, t, rfl⟩ := List.append_of_mem h
 simp; omega
theorem IsMap.small (hm : IsMap n l r) {F : List (List Nat)} (hF : Faces (stf l r) (2 * l.length) F) : F.length ≤ 2 * l.length ∧ ∀ L ∈ F, L.length ≤ 2 * l.length := by
 have h1 := hF.perm.length_eq
 rw [List.length_range] at h1
 exact ⟨by rw [← h1]; exact len_le_flat F (fun L hL => (hF.dec.ring L hL).1), fun L hL => by rw [← h1]; exact one_le_flat hL⟩
end
theorem IsMap.lists {n : Nat} {l : List Ed} {r : List (List Int)} (hm : IsMap n l r) : (facesL (stOf l r)).length ≤ 8388608 ∧ ∀ x ∈ facesL (stOf l r), x.length ≤ 8388608 := by
 obtain ⟨F, e, hF⟩ := hm.faces
 obtain ⟨s1, s2⟩ := hm.small hF
 have hll := hm.good.2.2.1
 rw [e]
 refine ⟨by rw [List.length_map]; omega, fun x hx => ?_⟩
 obtain ⟨L, hL, rfl⟩ := List.mem_map.1 hx
 have := s2 L hL
 unfold zN
 rw [List.length_map]; omega
end Rot
end Go.Proofs.Ytaepieadbfndnaa
namespace Go.Proofs.Ytaepieadbfndnaa.Sets
inductive Conn (E : Nat → Nat → Prop) : Nat → Nat → Prop where
 | refl (a : Nat) : Conn E a a
 | fwd {a b c : Nat} : Conn E a b → E b c → Conn E a c
 | bwd {a b c : Nat} : Conn E a b → E c b → Conn E a c
theorem Conn.trans {E : Nat → Nat → Prop} {a b c : Nat} (h : Conn E a b) (k : Conn E b c) : Conn E a c := by
 induction k with
 | refl => exact h
 | fwd _ e ih => exact .fwd ih e
 | bwd _ e ih => exact .bwd ih e
theorem Conn.one {E : Nat → Nat → Prop} {a b : Nat} (e : E a b) : Conn E a b := .fwd (.refl a) e
theorem Conn.symm {E : Nat → Nat → Prop} {a b : Nat} (h : Conn E a b) : Conn E b a := by
 induction h with
 | refl => exact .refl _
 | fwd _ e ih => exact (Conn.bwd (.refl _) e).trans ih
 | bwd _ e ih => exact (Conn.fwd (.refl _) e).trans ih
theorem Conn.mono {E F : Nat → Nat → Prop} (hEF : ∀ a b, E a b → Conn F a b) {a b : Nat} (h : Conn E a b) : Conn F a b := by
 induction h with
 | refl => exact .refl _
 | fwd _ e ih => exact ih.trans (hEF _ _ e)
 | bwd _ e ih => exact ih.trans (hEF _ _ e).symm
structure Part (n : Nat) (E : Nat → Nat → Prop) (m : List Nat) : Prop where
 len : m.length = n
 inn : ∀ a b, E a b → a < n ∧ b < n
 le : ∀ i, i < n → gt m i ≤ i
 edge : ∀ a b, E a b → gt m a = gt m b
 conn : ∀ i, i < n → Conn E i (gt m i)
theorem Part.const {n : Nat} {E : Nat → Nat → Prop} {m : List Nat} (h : Part n E m) {a b : Nat} (c : Conn E a b) : gt m a = gt m b := by
 induction c with
 | refl => rfl
 | fwd _ e ih => exact ih.trans (h.edge _ _ e)
 | bwd _ e ih => exact ih.trans (h.edge _ _ e).symm
theorem Part.lt {n : Nat} {E : Nat → Nat → Prop} {m : List Nat} (h : Part n E m) {i : Nat} (hi : i < n) : gt m i < n := by have := h.le i hi; omega
theorem Part.idem {n : Nat} {E : Nat → Nat → Prop} {m : List Nat} (h : Part n E m) {i : Nat} (hi : i < n) : gt m (gt m i) = gt m i := (h.const (h.conn i hi)).symm
theorem Part.iff {n : Nat} {E : Nat → Nat → Prop} {m : List Nat} (h : Part n E m) {i j : Nat} (hi : i < n) (hj : j < n) : gt m i = gt m j ↔ Conn E i j :=
 ⟨fun e => (h.conn i hi).trans (by rw [e]; exact (h.conn j hj).symm), fun c => h.const c⟩
theorem list_ext_gt {l m : List Nat} (hl : l.length = m.length) (h : ∀ i, i < l.length → gt l i = gt m i) : l = m := by
 apply List.ext_getElem hl
 intro i h1 h2
 have := h i h1
 simpa [gt, List.getD_eq_getElem?_getD, h1, h2] using this
theorem Part.unique {n : Nat} {E F : Nat → Nat → Prop} {m m' : List Nat} (h : Part n E m) (k : Part n F m') (hEF : ∀ a b, E a b → Conn F a b) (hFE : ∀ a b, F a b → Conn E a b) : m = m' := by
 refine list_ext_gt (h.len.trans k.len.symm) (fun i hi => ?_)
 rw [h.len] at hi
 have h1 := k.const ((h.conn i hi).mono hEF)
 have h2 := h.const ((k.conn i hi).mono hFE)
 have h3 := k.le _ (h.lt hi)
 have h4 := h.le _ (k.lt hi)
 omega
theorem Part.congr {n : Nat} {E F : Nat → Nat → Prop} {m : List Nat} (h : Part n E m) (hin : ∀ a b, F a b → a < n ∧ b < n) (hEF : ∀ a b, E a b → Conn F a b) (hFE : ∀ a b, F a b → Conn E a b) : Part n F m :=
 ⟨h.len, hin, h.le, fun a b f => h.const (hFE a b f), fun i hi => (h.conn i hi).mono hEF⟩
theorem Part.range (n : Nat) : Part n (fun _ _ => False) (List.range n) :=
 ⟨by simp, fun _ _ h => h.elim, fun i hi => by rw [range_get hi]; exact Nat.le_refl _, fun _ _ h => h.elim, fun i hi => by rw [range_get hi]; exact .refl _⟩
theorem Part.glue {n : Nat} {E : Nat → Nat → Prop} {m : List Nat} (h : Part n E m) {a b lo hi : Nat} (ha : a < n) (hb : b < n) (hlt : lo < hi) (hor : (gt m a = lo ∧ gt m b = hi) ∨ (gt m a = hi ∧ gt m b = lo)) :
  Part n (fun x y => E x y ∨ (x = a ∧ y = b)) (Sets.glue lo hi m) := by
 have hl := h.len
 have g : ∀ i, i < n → gt (Sets.glue lo hi m) i = if gt m i = hi then lo else gt m i := fun i hi' => glue_get _ _ _ (by omega)
 have cab : Conn (fun x y => E x y ∨ (x = a ∧ y = b)) a b := .one (.inr ⟨rfl, rfl⟩)
 have up : ∀ x y, E x y → Conn (fun x y => E x y ∨ (x = a ∧ y = b)) x y := fun x y e => .one (.inl e)
 have clh : Conn (fun x y => E x y ∨ (x = a ∧ y = b)) hi lo := by
  have c1 := (h.conn a ha).mono up
  have c2 := (h.conn b hb).mono up
  rcases hor with ⟨e1, e2⟩ | ⟨e1, e2⟩
  ·rw [e1] at c1; rw [e2] at c2; exact (c2.symm.trans cab.symm).trans c1
  ·rw [e1] at c1; rw [e2] at c2; exact (c1.symm.trans cab).trans c2
 refine ⟨by rw [glue_length]; exact hl, ?_, ?_, ?_, ?_⟩
 ·rintro x y (e | ⟨rfl, rfl⟩)
  ·exact h.inn x y e
  ·exact ⟨ha, hb⟩
 ·intro i hi'
  rw [g i hi']
  have := h.le i hi'
  split <;> omega
 ·rintro x y (e | ⟨rfl, rfl⟩)
  ·have := h.inn x y e
   rw [g x this.1, g y this.2, h.edge x y e]
  ·rw [g x ha, g y hb]
   rcases hor with ⟨e1, e2⟩ | ⟨e1, e2⟩
   ·rw [e1, e2, if_neg (by omega), if_pos rfl]
   ·rw [e1, e2, if_pos rfl, if_neg (by omega)]
 ·intro i hi'
  have c := (h.conn i hi').mono up
  rw [g i hi']
  split
  ·rename_i e; rw [e] at c; exact c.trans clh
  ·exact c
end Go.Proofs.Ytaepieadbfndnaa.Sets
namespace Go.Proofs.Ytaepieadbfndnaa.Sets
def EP (n : Nat) (es : List (Int × Int)) (a b : Nat) : Prop := a < n ∧ b < n ∧ ((a : Int), (b : Int)) ∈ es
theorem ok_iff {m : List Nat} {a : Int} : ok m a = true ↔ 0 ≤ a ∧ a < (m.length : Int) := by
 simp only [ok, Bool.and_eq_true, decide_eq_true_eq]
theorem joinOf_same {m : List Nat} {a b : Nat} (h : gt m a = gt m b) : joinOf m a b = (m, false) := by
 unfold joinOf; rw [if_neg (by simp [h])]
theorem joinOf_out {m : List Nat} {a b : Int} (h : ¬ (ok m a = true ∧ ok m b = true)) : joinOf m a b = (m, false) := by
 unfold joinOf; rw [if_neg (by simp only [Bool.and_eq_true]; exact fun e => h e.1)]
theorem joinOf_two {m : List Nat} {a b : Nat} (ha : a < m.length) (hb : b < m.length) (h : gt m a ≠ gt m b) : joinOf m a b = (glue (min (gt m a) (gt m b)) (max (gt m a) (gt m b)) m, true) := by
 unfold joinOf; rw [if_pos (by simp [ok_of ha, ok_of hb, h])]; simp
theorem joinOf_part {n : Nat} {E : Nat → Nat → Prop} {m : List Nat} (h : Part n E m) (a b : Int) : Part n (fun x y => E x y ∨ (x < n ∧ y < n ∧ (x : Int) = a ∧ (y : Int) = b)) (joinOf m a b).1 := by
 have hl := h.len
 by_cases hk : ok m a = true ∧ ok m b = true
 ·obtain ⟨i, rfl, hi⟩ := ok_nat hk.1
  obtain ⟨j, rfl, hj⟩ := ok_nat hk.2
  rw [hl] at hi hj
  by_cases he : gt m i = gt m j
  ·rw [joinOf_same he]
   refine h.congr ?_ (fun a b e => .one (.inl e)) ?_
   ·rintro x y (e | ⟨hx, hy, _⟩)
    ·exact h.inn x y e
    ·exact ⟨hx, hy⟩
   ·rintro x y (e | ⟨hx, hy, ex, ey⟩)
    ·exact .one e
    ·obtain rfl : x = i := by omega
     obtain rfl : y = j := by omega
     exact (h.iff hi hj).1 he
  ·rw [joinOf_two (by omega) (by omega) he]
   have hg := h.glue (a := i) (b := j) (lo := min (gt m i) (gt m j)) (hi := max (gt m i) (gt m j)) hi hj (by omega) (by omega)
   refine hg.congr ?_ ?_ ?_
   ·rintro x y (e | ⟨hx, hy, _⟩)
    ·exact h.inn x y e
    ·exact ⟨hx, hy⟩
   ·rintro x y (e | ⟨rfl, rfl⟩)
    ·exact .one (.inl e)
    ·exact .one (.inr ⟨hi, hj, rfl, rfl⟩)
   ·rintro x y (e | ⟨hx, hy, ex, ey⟩)
    ·exact .one (.inl e)
    ·exact .one (.inr ⟨by omega, by omega⟩)
 ·rw [joinOf_out hk]
  refine h.congr ?_ (fun a b e => .one (.inl e)) ?_
  ·rintro x y (e | ⟨hx, hy, _⟩)
   ·exact h.inn x y e
   ·exact ⟨hx, hy⟩
  ·rintro x y (e | ⟨hx, hy, ex, ey⟩)
   ·exact .one e
   ·exact absurd ⟨ok_iff.2 (by omega), ok_iff.2 (by omega)⟩ hk
theorem joinAll_part_from {n : Nat} (es : List (Int × Int)) : ∀ {E : Nat → Nat → Prop} {m : List Nat}, Part n E m → Part n (fun x y => E x y ∨ EP n es x y) (joinAll m es) := by
 induction es with
 | nil =>
  intro E m h
  exact h.congr (fun a b e => e.elim (h.inn a b) (fun e => by simp [EP] at e)) (fun a b e => .one (.inl e)) (fun a b e => e.elim .one (fun e => by simp [EP] at e))
 | cons e es ih =>
  intro E m h
  have h1 := ih (joinOf_part h e.1 e.2)
  refine h1.congr ?_ ?_ ?_
  ·rintro x y (e | ⟨hx, hy, _⟩)
   ·exact h.inn x y e
   ·exact ⟨hx, hy⟩
  ·rintro x y ((e' | ⟨hx, hy, ex, ey⟩) | ⟨hx, hy, hm⟩)
   ·exact .one (.inl e')
   ·exact .one (.inr ⟨hx, hy, by rw [ex, ey]; exact List.mem_cons_self ..⟩)
   ·exact .one (.inr ⟨hx, hy, List.mem_cons_of_mem _ hm⟩)
  ·rintro x y (e' | ⟨hx, hy, hm⟩)
   ·exact .one (.inl (.inl e'))
   ·rcases List.mem_cons.1 hm with he | hm
    ·exact .one (.inl (.inr ⟨hx, hy, by rw [← he], by rw [← he]⟩))
    ·exact .one (.inr ⟨hx, hy, hm⟩)
theorem joinAll_part (n : Nat) (es : List (Int × Int)) : Part n (EP n es) (joinAll (List.range n) es) := by
 have h := joinAll_part_from es (Part.range n)
 exact h.congr (fun a b e => ⟨e.1, e.2.1⟩) (fun a b e => e.elim (fun e => e.elim) .one) (fun a b e => .one (.inr e))
theorem sets_join {n : Nat} {E : Nat → Nat → Prop} {m : List Nat} (h : Part n E m) (a b : Int) : sets (joinOf m a b).1 + (if (joinOf m a b).2 = true then 1 else 0) = sets m := by
 have hl := h.len
 by_cases hk : ok m a = true ∧ ok m b = true
 · obtain ⟨i, rfl, hi⟩ := ok_nat hk.1
   obtain ⟨j, rfl, hj⟩ := ok_nat hk.2
   rw [hl] at hi hj
   by_cases he : gt m i = gt m j
   · rw [joinOf_same he]; simp
   · rw [joinOf_two (by omega) (by omega) he]
     have h1 := h.idem hi
     have h2 := h.idem hj
     have h3 := h.lt hi
     have h4 := h.lt hj
     have := sets_glue' (m := m) (lo := min (gt m i) (gt m j)) (hi := max (gt m i) (gt m j)) (by omega) (by omega)
       (by rcases Nat.le_total (gt m i) (gt m j) with e | e
           · rw [Nat.min_eq_left e]; exact h1
           · rw [Nat.min_eq_right e]; exact h2)
       (by rcases Nat.le_total (gt m i) (gt m j) with e | e
           · rw [Nat.max_eq_right e]; exact h2
           · rw [Nat.max_eq_left e]; exact h1)
     simpa using this
 · rw [joinOf_out hk]; simp
end Go.Proofs.Ytaepieadbfndnaa.Sets
namespace Go.Proofs.Ytaepieadbfndnaa
open Go.RowKit Go.Proofs.YtaepieadbfndnaaW.PrintWords Go.Proofs.YtaepieadbfndnaaW.PrintLast Go.Proofs.YtaepieadbfndnaaW.PrintMore
namespace Sets
def gl (gs : List (List Nat)) (j : Nat) : List Nat := gs.getD j []
def va (vs : List Value) (j : Nat) : Value := vs.getD j (.slice none 0 0)
theorem gl_set (gs : List (List Nat)) (i j : Nat) (x : List Nat) : gl (gs.set i x) j = if i = j ∧ j < gs.length then x else gl gs j := by
 unfold gl
 simp only [List.getD_eq_getElem?_getD, List.getElem?_set]
 by_cases h : i = j
 ·subst h
  by_cases h2 : i < gs.length <;> simp [h2]
 ·simp [h]
theorem va_set (gs : List Value) (i j : Nat) (x : Value) : va (gs.set i x) j = if i = j ∧ j < gs.length then x else va gs j := by
 unfold va
 simp only [List.getD_eq_getElem?_getD, List.getElem?_set]
 by_cases h : i = j
 ·subst h
  by_cases h2 : i < gs.length <;> simp [h2]
 ·simp [h]
def iv (l : List Nat) : List Value := l.map fun (x : Nat) => Value.int .i64 (x : Int)
structure GRows (w : World) (B bo : Nat) (vs : List Value) (gs : List (List Nat)) : Prop where
 len : vs.length = gs.length
 out : w.heap[bo]? = some (.cells vs.toArray 27 (0, 0))
 own : ∀ j, j < gs.length → w.ownsRow B 3 1 (va vs j) (gl gs j).length (iv (gl gs j))
 apart : ∀ i j, i < gs.length → j < gs.length → i ≠ j → ∀ k, (va vs i).ownBlock = some k → (va vs j).ownBlock ≠ some k
 lt : bo < B
 base : B ≤ w.heap.size
theorem own_lt {w : World} {B e s n : Nat} {v : Value} {xs : List Value} (h : w.ownsRow B e s v n xs) {k : Nat} (hk : v.ownBlock = some k) : B ≤ k ∧ k < w.heap.size := h.lt k hk
theorem own_move' {w w1 : World} {base : Nat} {e : TypeId} {size n : Nat} {v : Value} {xs : List Value} (h : w.ownsRow base e size v n xs) (hm : ∀ k, v.ownBlock = some k → w1.heap[k]? = w.heap[k]?) : w1.ownsRow base e size v n xs := own_move h hm
theorem GRows.frame {w w' : World} {B bo : Nat} {vs : List Value} {gs : List (List Nat)} (h : GRows w B bo vs gs) (hs : w.heap.size ≤ w'.heap.size) (hb : ∀ k, B ≤ k → k < w.heap.size → w'.heap[k]? = w.heap[k]?) (ho : w'.heap[bo]? = w.heap[bo]?) : GRows w' B bo vs gs :=
 ⟨h.len, ho.trans h.out, fun j hj => own_move' (h.own j hj) (fun k hk => hb k (own_lt (h.own j hj) hk).1 (own_lt (h.own j hj) hk).2), h.apart, h.lt, Nat.le_trans h.base hs⟩
theorem GRows.alloc {w : World} {B bo : Nat} {vs : List Value} {gs : List (List Nat)} (h : GRows w B bo vs gs) (o : Obj) : GRows (w.alloc o) B bo vs gs :=
 h.frame (by simp) (fun k _ hk => Below.heap_alloc _ _ _ hk) (Below.heap_alloc _ _ _ (blk_lt h.out))
theorem GRows.cell {w : World} {B bo : Nat} {vs : List Value} {gs : List (List Nat)} (h : GRows w B bo vs gs) {j : Nat} (hj : j < gs.length) : w.cell? ⟨bo, j, none⟩ = some (va vs j) := by
 have hl := h.len
 simp [World.cell?, h.out, va, List.getD_eq_getElem?_getD, show j < vs.length by omega]
theorem GRows.put {w w1 : World} {B bo : Nat} {vs : List Value} {gs : List (List Nat)} (h : GRows w B bo vs gs) {k : Nat} (hk : k < gs.length) {v' : Value} {a : Nat}
  (hown : w1.ownsRow B 3 1 v' ((gl gs k).length + 1) (iv (gl gs k) ++ [.int .i64 (a : Int)])) (hg : w.grownBy w1 (va vs k).ownBlock) (hat : v'.ownBlock = (va vs k).ownBlock ∨ v'.ownBlock = some w.heap.size) :
  GRows (w1.setCell ⟨bo, k, none⟩ v') B bo (vs.set k v') (gs.set k (gl gs k ++ [a])) := by
 have hl := h.len
 have hlt := h.lt
 have hne : ∀ q, (va vs k).ownBlock = some q → q ≠ bo := fun q hq e => by have := (own_lt (h.own k hk) hq).1; omega
 have ho1 : w1.heap[bo]? = some (.cells vs.toArray 27 (0, 0)) := (hg.block bo (blk_lt h.out) (fun e => hne bo e.symm rfl)).trans h.out
 refine ⟨by simp [h.len], ?_, ?_, ?_, h.lt, by have := h.base; have := hg.size; simp [World.setCell]; omega⟩
 ·rw [blk_setCell ho1]; simp
 ·intro j hj
  rw [List.length_set] at hj
  rw [gl_set, va_set]
  by_cases hkj : k = j
  ·subst hkj
   rw [if_pos ⟨rfl, by omega⟩, if_pos ⟨rfl, hj⟩]
   have e1 : iv (gl gs k ++ [a]) = iv (gl gs k) ++ [.int .i64 (a : Int)] := by simp [iv]
   rw [List.length_append, List.length_singleton, e1]
   exact own_move' hown (fun q hq => Below.heap_setCell _ _ _ _ (fun e => by have := (own_lt hown hq).1; simp at e; omega))
  ·rw [if_neg (by simp [hkj]), if_neg (by simp [hkj])]
   refine own_move' (h.own j hj) (fun q hq => ?_)
   have hq2 := own_lt (h.own j hj) hq
   rw [Below.heap_setCell _ _ _ _ (fun e => by simp at e; omega)]
   exact hg.block q hq2.2 (fun e => h.apart k j hk hj hkj q e.symm hq)
 ·intro i j hi hj hij q hq
  rw [List.length_set] at hi hj
  rw [va_set] at hq
  rw [va_set]
  by_cases hki : k = i
  ·subst hki
   rw [if_pos ⟨rfl, by omega⟩] at hq
   rw [if_neg (by simp [hij])]
   intro hq2
   rcases hat with e | e
   ·exact h.apart k j hi hj hij q (e ▸ hq) hq2
   ·have := (own_lt (h.own j hj) hq2).2
    rw [hq] at e
    simp at e; omega
  ·rw [if_neg (by simp [hki])] at hq
   by_cases hkj : k = j
   ·subst hkj
    rw [if_pos ⟨rfl, by omega⟩]
    intro hq2
    rcases hat with e | e
    ·exact h.apart i k hi hj hij q hq (e ▸ hq2)
    ·have := (own_lt (h.own i hi) hq).2
     rw [hq2] at e
     simp at e; omega
   ·rw [if_neg (by simp [hkj])]
    exact h.apart i j hi hj hij q hq
def grpTo (nums : List Nat) (c : Nat) : Nat → List (List Nat)
 | 0 => List.replicate c []
 | k + 1 => (grpTo nums c k).set (gt nums k) (gl (grpTo nums c k) (gt nums k) ++ [k])
theorem gt_snoc_lt {l : List Nat} {x i : Nat} (h : i < l.length) : gt (l ++ [x]) i = gt l i := by
 unfold gt; simp only [List.getD_eq_getElem?_getD]; rw [List.getElem?_append_left h]
theorem gt_snoc_eq {l : List Nat} {x i : Nat} (h : i = l.length) : gt (l ++ [x]) i = x := by
 subst h
 unfold gt; simp
theorem info_ints : (Try.prog.info? 27).map (fun i => (i.zero, i.size, i.bytes)) = some (some (.slice none 0 0), 1, 24) := by kernel_rfl
theorem made_nil (n : Nat) : madeCells #[.slice none 0 0] n = Array.replicate n (Value.slice none 0 0) := by
 apply Array.ext
 ·simp [madeCells]
 ·intro i h1 h2
  simp [madeCells, Nat.mod_one]
theorem GRows.start {w : World} (n : Nat) : GRows (w.alloc (.cells (Array.replicate n (Value.slice none 0 0)) 27 (0, 0))) (w.heap.size + 1) w.heap.size (List.replicate n (.slice none 0 0)) (List.replicate n []) := by
 have g : ∀ j, va (List.replicate n (.slice none 0 0)) j = .slice none 0 0 := fun j => by unfold va; rw [List.getD_eq_getElem?_getD, List.getElem?_replicate]; split <;> rfl
 have g2 : ∀ j, gl (List.replicate n []) j = [] := fun j => by unfold gl; rw [List.getD_eq_getElem?_getD, List.getElem?_replicate]; split <;> rfl
 refine ⟨by simp, by simpa using heap_last w (.cells (Array.replicate n (Value.slice none 0 0)) 27 (0, 0)), fun j _ => ?_, fun i j _ _ _ k hk => ?_, by omega, by simp⟩
 ·rw [g, g2]; exact World.ownsRow_nil _ _ _ _
 ·rw [g] at hk; simp [Value.ownBlock] at hk
def groupsOf (m : List Nat) : List (List Nat) := grpTo (numTo m m.length).1 (numTo m m.length).2 m.length
end Sets
namespace Sets
def ints (l : List Nat) : List Int := l.map fun (x : Nat) => (x : Int)
theorem iv_encs (l : List Nat) : iv l = encs (Value.int .i64) (ints l) := by simp [iv, encs, ints, Function.comp_def]
theorem GRows.rows {w : World} {B bo base : Nat} {vs : List Value} {gs : List (List Nat)} {ok : Nat → Prop} (h : GRows w B bo vs gs) (hb : base ≤ bo) (hl : gs.length ≤ 9223372036854775807) (hok : ∀ k, base ≤ k → ok k) :
   Kd.R (Kd.slice 3 (Kd.int .i64)) 27 w base ok (.slice (some ⟨bo, 0, none⟩) gs.length gs.length) (gs.map ints) := by
 have hlt := h.lt
 have hsz : (Kd.slice 3 (Kd.int .i64)).sz = 1 := rfl
 refine ⟨fun k hk => hok k (by have : bo = k := by simpa [Value.ownBlock] using hk
                               omega), vs, ⟨by simp [h.len, hsz], .inr ⟨bo, gs.length, vs.toArray, by simp, hb, h.out, by simp, by unfold maxLen; simpa using hl, by simp [h.len, hsz], ?_⟩⟩, by simp [h.len, hsz], fun j p hj => ?_⟩
 · simp [List.take_of_length_le, h.len, hsz]
 · rw [List.getElem?_map] at hj
   obtain ⟨g, hg, rfl⟩ := Option.map_eq_some_iff.1 hj
   have hj2 : j < gs.length := (List.getElem?_eq_some_iff.1 hg).1
   have e1 : gl gs j = g := by unfold gl; rw [List.getD_eq_getElem?_getD, hg]; rfl
   have e2 : (vs.drop (j * 1)).take 1 = [va vs j] := by
     rw [Nat.mul_one, List.drop_eq_getElem_cons (by rw [h.len]; exact hj2), List.take_succ_cons, List.take_zero]
     simp [va, List.getD_eq_getElem?_getD, h.len, hj2]
   refine ⟨va vs j, e2, Kd.R_of_own ?_ (fun k hk => ?_)⟩
   · have := own_weaken (h.own j hj2) (show base ≤ B by omega)
     rw [iv_encs, e1] at this
     rw [show (ints g).length = g.length by simp [ints]]
     exact this
   · have := own_lt (h.own j hj2) hk
     refine ⟨hok k (by omega), fun e => ?_⟩
     have : k = bo := by simpa [Value.ownBlock] using e
     omega
def Sub (n : Nat) (es : List (Int × Int)) (m : List Nat) : Prop := ∃ E, Part n E m ∧ ∀ a b, E a b → Conn (EP n es) a b
theorem Sub.start (n : Nat) (es : List (Int × Int)) : Sub n es (List.range n) := ⟨_, Part.range n, fun _ _ h => h.elim⟩
theorem pe_mem {es : List (Int × Int)} {k : Nat} (h : k < es.length) : pe es k ∈ es := by
 unfold pe; rw [List.getD_eq_getElem?_getD, List.getElem?_eq_getElem h]; exact List.getElem_mem h
def Cov (n : Nat) (es : List (Int × Int)) (i : Nat) (m : List Nat) : Prop := ∃ E, Part n E m ∧ (∀ a b, E a b → Conn (EP n es) a b) ∧ ∀ j, i ≤ j → j < es.length → ∀ a b : Nat, a < n → b < n → pe es j = ((a : Int), (b : Int)) → Conn E a b
theorem Sub.join {n : Nat} {es : List (Int × Int)} {m : List Nat} (h : Sub n es m) {k : Nat} (hk : k < es.length) : Sub n es (joinOf m (pe es k).2 (pe es k).1).1 := by
 obtain ⟨E, h1, h2⟩ := h
 refine ⟨_, joinOf_part h1 _ _, ?_⟩
 rintro a b (e | ⟨ha, hb, ea, eb⟩)
 ·exact h2 a b e
 ·exact (Conn.one (E := EP n es) ⟨hb, ha, by rw [ea, eb]; exact pe_mem hk⟩).symm
theorem Cov.join {n : Nat} {es : List (Int × Int)} {m : List Nat} {i : Nat} (h : Cov n es (i + 1) m) (hk : i < es.length) : Cov n es i (joinOf m (pe es i).1 (pe es i).2).1 := by
 obtain ⟨E, h1, h2, h3⟩ := h
 refine ⟨_, joinOf_part h1 _ _, ?_, ?_⟩
 ·rintro a b (e | ⟨ha, hb, ea, eb⟩)
  ·exact h2 a b e
  ·exact Conn.one (E := EP n es) ⟨ha, hb, by rw [ea, eb]; exact pe_mem hk⟩
 ·intro j hj hj2 a b ha hb he
  rcases Nat.lt_or_ge i j with h | h
  ·exact (h3 j h hj2 a b ha hb he).mono fun _ _ e => .one (.inl e)
  ·obtain rfl : j = i := by omega
   rw [he]
   exact .one (.inr ⟨ha, hb, rfl, rfl⟩)
theorem mem_pe {es : List (Int × Int)} {x : Int × Int} (h : x ∈ es) : ∃ j, j < es.length ∧ pe es j = x := by
 obtain ⟨j, hj, rfl⟩ := List.mem_iff_getElem.1 h
 exact ⟨j, hj, by unfold pe; rw [List.getD_eq_getElem?_getD, List.getElem?_eq_getElem hj]; rfl⟩
theorem Cov.all {n : Nat} {es : List (Int × Int)} {m : List Nat} (h : Cov n es 0 m) : m = joinAll (List.range n) es := by
 obtain ⟨E, h1, h2, h3⟩ := h
 refine h1.unique (joinAll_part n es) h2 ?_
 rintro a b ⟨ha, hb, hm⟩
 obtain ⟨j, hj, hp⟩ := mem_pe hm
 exact h3 j (by omega) hj a b ha hb hp
def yesTo (m : List Nat) (es : List (Int × Int)) : Nat → Nat
 | 0 => 0
 | k + 1 => yesTo m es k + if (joinOf (joinAll m (es.take k)) (pe es k).1 (pe es k).2).2 = true then 1 else 0
theorem sets_yes (n : Nat) (es : List (Int × Int)) : ∀ k, k ≤ es.length → sets (joinAll (List.range n) (es.take k)) + yesTo (List.range n) es k = n := by
 intro k
 induction k with
 | zero => intro _; simp [joinAll, yesTo, sets_range]
 | succ k ih =>
  intro hk
  have h1 := ih (by omega)
  have h2 := sets_join (joinAll_part n (es.take k)) (pe es k).1 (pe es k).2
  rw [joinAll_take _ _ (by omega)]
  unfold yesTo
  omega
theorem numTo_sets {n : Nat} {E : Nat → Nat → Prop} {m : List Nat} (h : Part n E m) : ∀ k, k ≤ n → (numTo m k).2 = (List.range k).countP fun i => gt m i == i := by
 intro k
 induction k with
 | zero => intro _; rfl
 | succ k ih =>
  intro hk
  rw [List.range_succ, List.countP_append]
  have h1 := ih (by omega)
  have h2 := h.le k (by omega)
  unfold numTo
  by_cases c : gt m k < k
  ·rw [if_pos c]
   simp [h1, show gt m k ≠ k by omega]
  ·rw [if_neg c]
   simp [h1, show gt m k = k by omega]
theorem numTo_all {n : Nat} {E : Nat → Nat → Prop} {m : List Nat} (h : Part n E m) : (numTo m m.length).2 = sets m := by
 rw [h.len, numTo_sets h n (Nat.le_refl _)]
 unfold sets
 rw [h.len]
structure Two (w0 w : World) (p bP bS q bQ bT : Nat) (ms mt : List Nat) : Prop where
 s : At w p bP bS ms
 t : At w q bQ bT mt
 lo : w0.heap.size ≤ p ∧ w0.heap.size ≤ bP ∧ w0.heap.size ≤ bS ∧ w0.heap.size ≤ q ∧ w0.heap.size ≤ bQ ∧ w0.heap.size ≤ bT
 ap : p < q ∧ p < bQ ∧ p < bT ∧ bP < q ∧ bP < bQ ∧ bP < bT ∧ bS < q ∧ bS < bQ ∧ bS < bT
 old : Below w0.heap.size w0 w
def Own2 (p bP bS q bQ bT : Nat) (k : Nat) : Prop := Own p bP bS k ∨ Own q bQ bT k
theorem At.frame {w w' : World} {p bP bS : Nat} {m : List Nat} {S : Nat → Prop} (h : At w p bP bS m) (f : Frame S w w') (hs : ∀ k, Own p bP bS k → ¬ S k) : At w' p bP bS m := by
 obtain ⟨P, S', h⟩ := h
 exact ⟨P, S', f.blk h.obj (hs _ (.inl rfl)), f.blk h.par (hs _ (.inr (.inl rfl))), f.blk h.siz (hs _ (.inr (.inr rfl))), h.ne1, h.ne2, h.ne3, h.small, h.rep, h.sized⟩
theorem At.hi {w : World} {p bP bS : Nat} {m : List Nat} (h : At w p bP bS m) : p < w.heap.size ∧ bP < w.heap.size ∧ bS < w.heap.size := by
 obtain ⟨P, S', h⟩ := h
 exact ⟨blk_lt h.obj, blk_lt h.par, blk_lt h.siz⟩
section
variable {w0 w w' : World} {p bP bS q bQ bT : Nat} {ms mt : List Nat}
theorem Two.alloc (h : Two w0 w p bP bS q bQ bT ms mt) (o : Obj) : Two w0 (w.alloc o) p bP bS q bQ bT ms mt := by
 have f : Frame (fun _ => False) w (w.alloc o) := (Frame.refl _ w).alloc o
 exact ⟨h.s.frame f (fun _ _ e => e), h.t.frame f (fun _ _ e => e), h.lo, h.ap, h.old.alloc (by exact h.old.size) o⟩
theorem Two.put (h : Two w0 w p bP bS q bQ bT ms mt) {b i : Nat} (u : Value) (hb : w0.heap.size ≤ b) (hn : ¬ Own2 p bP bS q bQ bT b) : Two w0 (w.setCell ⟨b, i, none⟩ u) p bP bS q bQ bT ms mt := by
 have f : Frame (· = b) w (w.setCell ⟨b, i, none⟩ u) := Frame.setCell (S := (· = b)) (p := ⟨b, i, none⟩) (Frame.refl _ w) rfl u
 exact ⟨h.s.frame f (fun k hk e => hn (.inl (e ▸ hk))), h.t.frame f (fun k hk e => hn (.inr (e ▸ hk))), h.lo, h.ap, h.old.trans (f.below h.old.size (fun k hk => by omega))⟩
theorem Two.drawn (h : Two w0 w p bP bS q bQ bT ms mt) (n : Nat) : Two w0 (w.drewN n) p bP bS q bQ bT ms mt := by
 have f : Frame (fun _ => False) w (w.drewN n) := (Frame.refl _ w).drewN n
 exact ⟨h.s.frame f (fun _ _ e => e), h.t.frame f (fun _ _ e => e), h.lo, h.ap, h.old.trans (f.below h.old.size (fun k hk => hk.elim))⟩
theorem Two.drew (h : Two w0 w p bP bS q bQ bT ms mt) : Two w0 w.drew p bP bS q bQ bT ms mt := by
 have f : Frame (fun _ => False) w w.drew := (Frame.refl _ w).drew
 exact ⟨h.s.frame f (fun _ _ e => e), h.t.frame f (fun _ _ e => e), h.lo, h.ap, h.old.trans (f.below h.old.size (fun k hk => hk.elim))⟩
theorem Two.below (h : Two w0 w p bP bS q bQ bT ms mt) (hb : Below w.heap.size w w') : Two w0 w' p bP bS q bQ bT ms mt := by
 have h1 := h.s.hi
 have h2 := h.t.hi
 have f : Frame (fun k => w.heap.size ≤ k) w w' := ⟨hb.os, hb.tape, hb.output, hb.size, fun i hi _ => hb.block i hi⟩
 exact ⟨h.s.frame f (fun k hk e => by unfold Own at hk; omega), h.t.frame f (fun k hk e => by unfold Own at hk; omega), h.lo, h.ap, h.old.trans (hb.mono h.old.size)⟩
end
end Sets
namespace PureR
open Sets
theorem wadd {i n : Nat} (h : i < n) (hn : n ≤ 9000000) : wrap64 ((i : Int) + 1) = ((i + 1 : Nat) : Int) := by rw [IntWalk.wrap64_in _ (by omega)]; omega
def roots (m : List Nat) (i : Nat) : Nat := (List.range i).countP fun j => gt m j == j
theorem roots_succ (m : List Nat) (i : Nat) : roots m (i + 1) = roots m i + if gt m i = i then 1 else 0 := by
 unfold roots
 rw [List.range_succ, List.countP_append]
 by_cases h : gt m i = i <;> simp [h]
section
variable {n : Nat} {E : Nat → Nat → Prop} {m : List Nat}
theorem num_at (h : Part n E m) : ∀ k, k ≤ n → ∀ a, a < k → gt (numTo m k).1 a = roots m (gt m a) := by
 intro k
 induction k with
 | zero => intro _ a ha; omega
 | succ k ih =>
  intro hk a ha
  have hl := numTo_length m k
  have hle := h.le k (by omega)
  have hcn := numTo_sets h k (by omega)
  unfold numTo
  by_cases c : gt m k < k
  ·rw [if_pos c]
   rcases Nat.lt_or_ge a k with h1 | h1
   ·rw [gt_snoc_lt (by omega), ih (by omega) a h1]
   ·obtain rfl : a = k := by omega
    rw [gt_snoc_eq (by omega), ih (by omega) _ c, h.idem (by omega)]
  ·rw [if_neg c]
   rcases Nat.lt_or_ge a k with h1 | h1
   ·rw [gt_snoc_lt (by omega), ih (by omega) a h1]
   ·obtain rfl : a = k := by omega
    rw [gt_snoc_eq (by omega), hcn, show gt m a = a by omega]
    rfl
theorem roots_mono (m : List Nat) {a b : Nat} (h : a ≤ b) : roots m a ≤ roots m b := by
 induction b with
 | zero => obtain rfl : a = 0 := by omega
           exact Nat.le_refl _
 | succ b ih =>
   rcases Nat.lt_or_ge a (b + 1) with h1 | h1
   · have := ih (by omega)
     rw [roots_succ]; omega
   · obtain rfl : a = b + 1 := by omega
     exact Nat.le_refl _
theorem roots_inj (m : List Nat) {a b : Nat} (ha : gt m a = a) (hb : gt m b = b) (h : roots m a = roots m b) : a = b := by
 rcases Nat.lt_trichotomy a b with c | c | c
 ·have h1 := roots_mono m (show a + 1 ≤ b by omega)
  rw [roots_succ, if_pos ha] at h1; omega
 ·exact c
 ·have h1 := roots_mono m (show b + 1 ≤ a by omega)
  rw [roots_succ, if_pos hb] at h1; omega
theorem roots_lt {i : Nat} (hi : i < n) (hr : gt m i = i) : roots m i < roots m n := by
 have h1 := roots_mono m (show i + 1 ≤ n by omega)
 rw [roots_succ, if_pos hr] at h1; omega
end
end PureR
namespace Rot
open GAll Mem Ring Face
def parT (n : Nat) (l : List Ed) (t : Nat) : List Nat := Sets.joinAll (List.range n) ((ends l).take t)
section
variable {n : Nat} {l : List Ed} {r : List (List Int)}
theorem parT_part (n : Nat) (l : List Ed) (t : Nat) : Sets.Part n (Sets.EP n ((ends l).take t)) (parT n l t) := Sets.joinAll_part n _
theorem ends_in (hg : PureV.Good (n : Int) l) {t : Nat} (ht : t < l.length) : ∃ u v : Nat, (Sets.pe (ends l) t) = ((u : Int), (v : Int)) ∧ u < n ∧ v < n ∧ u ≠ v ∧ gi (frs l) (2 * t) = (u : Int) ∧ gi (frs l) (2 * t + 1) = (v : Int) := by
 obtain ⟨⟨a, b, c⟩, _⟩ := hg.2.2.2 t ht
 have e : Sets.pe (ends l) t = ((PureV.rdE l (t : Nat)).f0, (PureV.rdE l (t : Nat)).f1) := pe_ends ht
 refine ⟨(PureV.rdE l (t : Nat)).f0.toNat, (PureV.rdE l (t : Nat)).f1.toNat, ?_, by omega, by omega, by omega, ?_, ?_⟩
 ·rw [e, Int.toNat_of_nonneg (by omega), Int.toNat_of_nonneg (by omega)]
 ·rw [frs_even ht, Int.toNat_of_nonneg (by omega)]
 ·rw [frs_odd ht, Int.toNat_of_nonneg (by omega)]
theorem parT_succ (n : Nat) (l : List Ed) {t : Nat} (ht : t < l.length) : parT n l (t + 1) = (Sets.joinOf (parT n l t) (Sets.pe (ends l) t).1 (Sets.pe (ends l) t).2).1 := Sets.joinAll_take _ _ (by rw [ends_length]; exact ht)
theorem bound (hm : IsMap n l r) : ∀ t, t ≤ l.length → ∃ L', Dec (upTo (nxf l r) t) L' ∧ L'.flatten.Perm (full (rowsN r)).flatten ∧ Within (fun h => Sets.gt (parT n l t) (gi (frs l) h).toNat) L' ∧ L'.length + 2 * n ≤ (full (rowsN r)).length + t + 2 * Sets.sets (parT n l t)
 | 0, _ => by
  refine ⟨full (rowsN r), by rw [upTo_zero]; exact hm.dec.1, List.Perm.refl _, fun L hL x hx y hy => ?_, ?_⟩
  ·unfold full at hL
   rw [List.mem_filter] at hL
   obtain ⟨row, hrow, rfl⟩ := List.mem_map.1 hL.1
   obtain ⟨v, hv, rfl⟩ := gl_ge hrow
   have hvn : v < n := by have := hm.rot.len; omega
   have h1 := (hm.row_at hvn).1 hx
   have h2 := (hm.row_at hvn).1 hy
   simp only [h1.2, h2.2]
  ·have e : Sets.sets (parT n l 0) = n := by
    have h := (Sets.sets_yes n (ends l) 0 (Nat.zero_le _))
    have h2 : Sets.yesTo (List.range n) (ends l) 0 = 0 := rfl
    rw [h2] at h
    exact h
   rw [e]; omega
 | t + 1, ht => by
  obtain ⟨L1, d1, d2, d3, d4⟩ := bound hm t (by omega)
  obtain ⟨u, v, epe, hu, hv, huv, e1, e2⟩ := ends_in hm.good (t := t) (by omega)
  have hP := parT_part n l t
  have hs := Sets.sets_join hP (Sets.pe (ends l) t).1 (Sets.pe (ends l) t).2
  have hsu := parT_succ n l (t := t) (by omega)
  rw [epe] at hs hsu
  simp only at hs hsu
  have ha : 2 * t ∈ L1.flatten := by rw [d2.mem_iff, full_flatten, hm.rows_flat.2]; omega
  have hb : 2 * t + 1 ∈ L1.flatten := by rw [d2.mem_iff, full_flatten, hm.rows_flat.2]; omega
  obtain ⟨L2, k1, k2, k3, k4⟩ := d1.swap (g := upTo (nxf l r) (t + 1)) ha hb (by omega) (upTo_a _ t) (upTo_b _ t) (upTo_other _ t)
  have hlen := hP.len
  by_cases c : Sets.gt (parT n l t) u = Sets.gt (parT n l t) v
  ·rw [Sets.joinOf_same c] at hs hsu
   simp only [Bool.false_eq_true, if_false, Nat.add_zero] at hs hsu
   rw [hsu]
   refine ⟨L2, k1, k2.trans d2, k3 _ ?_ d3, ?_⟩
   ·simp only [e1, e2, Int.toNat_natCast]; exact c
   ·rcases k4 with ⟨k4, _⟩ | k4 <;> omega
  ·have ej := Sets.joinOf_two (m := parT n l t) (a := u) (b := v) (by omega) (by omega) c
   rw [ej] at hs hsu
   simp only [if_true] at hs hsu
   have hno : L2.length + 1 = L1.length := by
    rcases k4 with ⟨_, q, hq, q1, q2⟩ | k4
    ·have := d3 q hq (2 * t) q1 (2 * t + 1) q2
     simp only [e1, e2, Int.toNat_natCast] at this
     exact absurd this c
    ·exact k4
   have hgl : ∀ i, i < n → Sets.gt (parT n l (t + 1)) i = if Sets.gt (parT n l t) i = max (Sets.gt (parT n l t) u) (Sets.gt (parT n l t) v) then min (Sets.gt (parT n l t) u) (Sets.gt (parT n l t) v) else Sets.gt (parT n l t) i := fun i hi => by
    rw [hsu]; exact Sets.glue_get _ _ _ (by omega)
   have hin : ∀ x, x ∈ L1.flatten → (gi (frs l) x).toNat < n := fun x hx => by
    rw [d2.mem_iff, full_flatten, hm.rows_flat.2] at hx
    have := frs_range hm.good hx
    omega
   refine ⟨L2, k1, k2.trans d2, k3 _ ?_ (fun q hq x hx y hy => ?_), ?_⟩
   ·simp only [e1, e2, Int.toNat_natCast]
    rw [hgl u hu, hgl v hv]
    rcases Nat.le_total (Sets.gt (parT n l t) u) (Sets.gt (parT n l t) v) with q | q
    ·rw [Nat.max_eq_right q, Nat.min_eq_left q, if_neg c, if_pos rfl]
    ·rw [Nat.max_eq_left q, Nat.min_eq_right q, if_pos rfl, if_neg (fun e => c e.symm)]
   ·have h3 := d3 q hq x hx y hy
    simp only at h3 ⊢
    rw [hgl _ (hin x (List.mem_flatten.2 ⟨q, hq, hx⟩)), hgl _ (hin y (List.mem_flatten.2 ⟨q, hq, hy⟩)), h3]
   ·rw [← hsu] at hs
    omega
def lone (r : List (List Int)) : Nat := r.countP fun row => row.isEmpty
theorem full_length (r : List (List Int)) : (full (rowsN r)).length + lone r = r.length := by
 unfold full rowsN lone
 rw [← List.countP_eq_length_filter, List.countP_map]
 have h := List.length_eq_countP_add_countP (fun row : List Int => row.isEmpty) (l := r)
 have e : List.countP ((fun l => !l.isEmpty) ∘ fN) r = List.countP (fun a => ¬ (a.isEmpty = true)) r := List.countP_congr fun x _ => by
  cases x <;> simp [fN]
 rw [e]
 omega
theorem parT_all (n : Nat) (l : List Ed) : parT n l l.length = Sets.joinAll (List.range n) (ends l) := by
 unfold parT
 rw [List.take_of_length_le (by rw [ends_length]; exact Nat.le_refl _)]
theorem faces_le (hm : IsMap n l r) {F : List (List Nat)} (hF : Faces (stf l r) (2 * l.length) F) : F.length + lone r + n ≤ l.length + 2 * Sets.sets (parT n l l.length) := by
 obtain ⟨L', d1, d2, _, d4⟩ := bound hm l.length (Nat.le_refl _)
 have h1 := full_length r
 rw [hm.rot.len] at h1
 have h2 := (Dec.unique (fun _ => ()) (fun _ _ _ => rfl) F L' hF.dec d1 (hF.perm.trans (d2.trans hm.dec.2).symm)).length_eq
 rw [List.length_map, List.length_map] at h2
 omega
theorem nth_class {f : Nat → Nat} {l : List Nat} {c : Nat → Nat} (h : Ring f l) (hc : ∀ x ∈ l, c (f x) = c x) {x : Nat} (hx : x ∈ l) : ∀ k, c (Ring.nth f x k) = c x
 | 0 => rfl
 | k + 1 => by
  show c (f (Ring.nth f x k)) = c x
  rw [hc _ (h.nth hx k), nth_class h hc hx k]
theorem ring_class {f : Nat → Nat} {l : List Nat} {c : Nat → Nat} (h : Ring f l) (hc : ∀ x ∈ l, c (f x) = c x) : ∀ x ∈ l, c x = c (l.headD 0) := by
 intro x hx
 cases l with
 | nil => cases hx
 | cons a t =>
  have h2 := ring_cons.1 h
  obtain ⟨k, rfl⟩ := lead_nth t a h2 x hx
  exact nth_class h hc (List.mem_cons_self ..) k
def pick (c : Nat → Nat) (k : Nat) (L : List (List Nat)) : List (List Nat) := L.filter fun l => c (l.headD 0) == k
theorem flatten_filter_sub (p : List Nat → Bool) : ∀ L : List (List Nat), (L.filter p).flatten.Sublist L.flatten
 | [] => List.Sublist.slnil
 | a :: L => by
  have ih := flatten_filter_sub p L
  rw [List.filter_cons]
  split
  ·rw [List.flatten_cons, List.flatten_cons]
   exact (List.Sublist.refl a).append ih
  ·rw [List.flatten_cons]
   exact ih.trans (List.sublist_append_right a _)
theorem pick_dec {f : Nat → Nat} {c : Nat → Nat} {k : Nat} {L : List (List Nat)} (h : Dec f L) : Dec f (pick c k L) := by
 refine ⟨fun l hl => h.ring l (List.mem_filter.1 hl).1, ?_⟩
 exact List.Nodup.sublist (flatten_filter_sub _ L) h.nodup
theorem pick_mem {f : Nat → Nat} {c : Nat → Nat} {k : Nat} {L : List (List Nat)} (h : Dec f L) (hc : ∀ x ∈ L.flatten, c (f x) = c x) (x : Nat) : x ∈ (pick c k L).flatten ↔ x ∈ L.flatten ∧ c x = k := by
 rw [List.mem_flatten, List.mem_flatten]
 constructor
 ·rintro ⟨l, hl, hx⟩
  obtain ⟨h1, h2⟩ := List.mem_filter.1 hl
  refine ⟨⟨l, h1, hx⟩, ?_⟩
  rw [ring_class (h.ring l h1) (fun y hy => hc y (List.mem_flatten.2 ⟨l, h1, hy⟩)) x hx]
  simpa using h2
 ·rintro ⟨⟨l, h1, hx⟩, h2⟩
  refine ⟨l, List.mem_filter.2 ⟨h1, ?_⟩, hx⟩
  rw [ring_class (h.ring l h1) (fun y hy => hc y (List.mem_flatten.2 ⟨l, h1, hy⟩)) x hx] at h2
  simpa using h2
structure Cls (n : Nat) (l : List Ed) (c : Nat → Nat) (cv : Nat → Nat) : Prop where
 half : ∀ h, h < 2 * l.length → c h = cv (gi (frs l) h).toNat
 edge : ∀ e, e < l.length → c (2 * e) = c (2 * e + 1)
theorem Cls.twn {c cv : Nat → Nat} (hc : Cls n l c cv) {h : Nat} (hh : h < 2 * l.length) : c (Ring.twn h) = c h := by
 unfold Ring.twn
 split
 ·have e : h = 2 * (h / 2) := by omega
  have := hc.edge (h / 2) (by omega)
  rw [← e] at this
  exact this.symm
 ·have e : h - 1 = 2 * (h / 2) := by omega
  have e2 : h = 2 * (h / 2) + 1 := by omega
  have := hc.edge (h / 2) (by omega)
  rw [← e2, ← e] at this
  exact this
theorem Cls.nxf {c cv : Nat → Nat} (hc : Cls n l c cv) (hm : IsMap n l r) {h : Nat} (hh : h < 2 * l.length) : c (Rot.nxf l r h) = c h := by
 have h1 := next_in hm.rot (nxOf_next hm.rot) (frs_in hm.good) (x := h) (by rw [frs_length]; exact hh)
 rw [frs_length, hm.nxf_eq hh, Int.toNat_natCast] at h1
 rw [hc.half _ (by omega), hc.half h hh, h1.2.2]
theorem Cls.stf {c cv : Nat → Nat} (hc : Cls n l c cv) (hm : IsMap n l r) {h : Nat} (hh : h < 2 * l.length) : c (Rot.stf l r h) = c h := by
 rw [stf_eq hh, hc.nxf hm (twn_lt hh), hc.twn hh]
theorem class_even (hm : IsMap n l r) {F : List (List Nat)} (hF : Faces (stf l r) (2 * l.length) F) {c cv : Nat → Nat} (hc : Cls n l c cv) (k : Nat) :
  ((pick c k F).length + (pick c k (full (rowsN r))).length + (List.range l.length).countP (fun e => c (2 * e) == k)) % 2 = 0 := by
 have hd := hm.dec
 have m1 : ∀ x, x ∈ (full (rowsN r)).flatten ↔ x < 2 * l.length := fun x => by rw [full_flatten, hm.rows_flat.2]
 have p1 := fun x => pick_mem (c := c) (k := k) hd.1 (fun x hx => hc.nxf hm ((m1 x).1 hx)) x
 obtain ⟨L', d1, d2, d3, _⟩ := parity (pick_dec (c := c) (k := k) hd.1) (fun e => by
  rw [p1, p1, m1, m1]
  constructor
  ·rintro ⟨a, b⟩
   exact ⟨by omega, by rw [← hc.edge e (by omega)]; exact b⟩
  ·rintro ⟨a, b⟩
   exact ⟨by omega, by rw [hc.edge e (by omega)]; exact b⟩) l.length
 have m2 : ∀ x, x ∈ F.flatten ↔ x < 2 * l.length := fun x => by rw [hF.perm.mem_iff, List.mem_range]
 have p2 := fun x => pick_mem (c := c) (k := k) hF.dec (fun x hx => hc.stf hm ((m2 x).1 hx)) x
 have hp : (pick c k F).flatten.Perm L'.flatten := by
  refine perm_of_same (pick_dec hF.dec).nodup d1.nodup (fun x => ?_)
  rw [p2, d2.mem_iff, p1, m1, m2]
 have h2 := (Dec.unique (fun _ => ()) (fun _ _ _ => rfl) (pick c k F) L' (pick_dec hF.dec) d1 hp).length_eq
 rw [List.length_map, List.length_map] at h2
 have h3 : inn (pick c k (full (rowsN r))).flatten l.length = (List.range l.length).countP (fun e => c (2 * e) == k) := by
  unfold inn
  refine List.countP_congr fun e he => ?_
  rw [List.mem_range] at he
  rw [decide_eq_true_eq, p1, m1, beq_iff_eq]
  exact ⟨fun q => q.2, fun q => ⟨by omega, q⟩⟩
 rw [h3] at d3
 omega
end
end Rot
end Go.Proofs.Ytaepieadbfndnaa
