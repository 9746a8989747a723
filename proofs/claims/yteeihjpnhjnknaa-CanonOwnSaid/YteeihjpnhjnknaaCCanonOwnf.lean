/- DERIVED. Texts of this seat, one behind the other: lemmas and walks that the statement CanonOwn needs. No condition. -/
import Derived.Test.YteeihjpnhjnknaaCCanonOwnb
import Derived.SizedLaws
import Derived.ChangeSlices
import Derived.ProofKit
import Derived.OpenShut
import Derived.ChangeOld
import Derived.Deep.Slices
import Derived.Test.YteeihjpnhjnknaaCCanonOwne
import Derived.Test.YteeihjpnhjnknaaCCanonOwnc
import Derived.Test.YteeihjpnhjnknaaCCanonOwnd
namespace Go.Proofs.Yteeihjpnhjnknaa.Open
open Go.RowKit Go.Proofs.YteeihjpnhjnknaaW.PrintWords Go.Proofs.YteeihjpnhjnknaaW.PrintLast Go.Proofs.YteeihjpnhjnknaaW.PrintMore Go.ChangeShapes Go.WideShapes Go.Deep
set_option linter.unusedVariables false
set_option linter.unusedSimpArgs false
def I64 (n : Int) : Prop := -9223372036854775808 ≤ n ∧ n ≤ 9223372036854775807
def Opens {α : Type} (P : Program) (t : TypeId) (d : Kd α) (good : α → Prop) : Prop :=
 ∀ {H : Type} (enc : TypeId × Value → H) (w : World) (fuel : Nat) (cs : List Value) (x : DataW H × List MemPlace),
   DataW.trod enc P w 0 (fun _ => true) true fuel t cs = some x → (x.1.weights P t).all (· ≤ reachBytes) = true → ∃ v, d.K w v cs ∧ good v
section
variable {P : Program} {α β : Type}
theorem opens_int {t : TypeId} (ht : P.underlying t = some (.int .i64)) : Opens P t (Kd.int .i64) I64 := by
 intro H enc w fuel cs x h _
 obtain ⟨n, rfl, _, hw⟩ := DataW.trod_int ht h
 refine ⟨n, rfl, ?_⟩
 have hmin : IntKind.i64.min = -9223372036854775808 := rfl
 have hmax : IntKind.i64.max = 9223372036854775807 := rfl
 simp only [Lit.wf, Bool.and_eq_true, decide_eq_true_eq] at hw
 unfold I64; omega
theorem weightsAll_mem {H : Type} {e : TypeId} {l : List (DataW H)} (h : (DataW.weightsAll P e l).all (· ≤ reachBytes) = true) {d : DataW H} (hd : d ∈ l) : (d.weights P e).all (· ≤ reachBytes) = true := by
 induction l with
 | nil => cases hd
 | cons a l ih =>
   unfold DataW.weightsAll at h
   rw [List.all_append, Bool.and_eq_true] at h
   rcases List.mem_cons.1 hd with rfl | hd
   · exact h.1
   · exact ih h.2 hd
theorem opens_slice {t e : TypeId} {d : Kd α} {good : α → Prop} {B : Nat} (ht : P.underlying t = some (.slice e)) (hc : P.cellsOf e = d.sz) (hB : P.bytesOf e = B) (ho : Opens P e d good) (dflt : α) :
   Opens P t (Kd.slice e d) (fun xs => xs.length * B ≤ 140737488351232 ∧ ∀ x ∈ xs, good x) := by
 intro H enc w fuel cs x h hwt
 rcases open_slice ht h with ⟨rfl, rfl⟩ | ⟨a, len, cap, m, n, D, Pl, rfl, hb, hl, hm, hmm, rfl, hx⟩
 · exact ⟨[], ⟨none, 0, rfl, Nat.le_refl _, rfl, by simp, fun h => absurd h (by simp)⟩, by simp, by simp⟩
 · simp only [if_true] at hmm
   subst hmm
   unfold DataW.weights at hwt
   rw [ht] at hwt
   simp only [List.all_cons, List.all_append, Bool.and_eq_true, decide_eq_true_eq, List.length_map, List.length_range, hB] at hwt
   obtain ⟨hw1, hw2, _⟩ := hwt
   have each : ∀ i, i < len → ∃ v : α × List Value, v.2.length = d.sz ∧ d.K w v.1 v.2 ∧ good v.1 ∧ ∀ k u, v.2[k]? = some u → w.cell? (a.add (i * d.sz + k)) = some u := by
     intro i hi
     obtain ⟨cs', h1, h2⟩ := hx i (by omega)
     rw [hc] at h1
     obtain ⟨_, hlen, hcell⟩ := World.cells?_some h1
     obtain ⟨v, hv, hg⟩ := ho enc w n cs' _ h2 (weightsAll_mem hw2 (List.mem_map.2 ⟨i, List.mem_range.2 hi, rfl⟩))
     refine ⟨(v, cs'), hlen, hv, hg, fun k u hk => ?_⟩
     have hk2 : k < d.sz := by
       have hk3 : k < cs'.length := (List.getElem?_eq_some_iff.1 hk).1
       omega
     have := hcell k hk2
     rw [Go.Deep.add_add] at this
     rw [this]; exact hk
   haveI : Inhabited (α × List Value) := ⟨(dflt, [])⟩
   obtain ⟨q, hq⟩ := choose_lt each
   have hlen : ((List.range len).map fun i => (q i).1).length = len := by simp
   have hget : ∀ j p, ((List.range len).map fun i => (q i).1)[j]? = some p → j < len ∧ p = (q j).1 := by
     intro j p hj
     rw [List.getElem?_map] at hj
     by_cases hjl : j < len
     · rw [List.getElem?_range hjl] at hj
       exact ⟨hjl, by simpa using hj.symm⟩
     · rw [List.getElem?_eq_none (by simp; omega)] at hj; simp at hj
   refine ⟨(List.range len).map fun i => (q i).1, ⟨some a, m, by rw [hlen], by rw [hlen]; exact hl, by rw [hlen], ?_, fun _ => ⟨a, rfl, fun j p hj => ?_⟩⟩, ?_, ?_⟩
   · rw [hlen]; unfold maxLen at hm; omega
   · obtain ⟨hjl, rfl⟩ := hget j p hj
     exact ⟨(q j).2, (hq j hjl).1, (hq j hjl).2.1, (hq j hjl).2.2.2⟩
   · rw [hlen]
     have h5 : len * B ≤ (len + (m - len)) * B := Nat.mul_le_mul_right _ (by omega)
     have h6 : reachBytes = 140737488351232 := rfl
     omega
   · intro v hv
     obtain ⟨i, hi, rfl⟩ := List.mem_map.1 hv
     exact (hq i (List.mem_range.1 hi)).2.2.1
theorem opens_two {t : TypeId} {f0 f1 : Field} {a : Kd α} {b : Kd β} {ga : α → Prop} {gb : β → Prop} (ht : P.underlying t = some (.struct #[f0, f1])) (h0 : Opens P f0.type a ga) (h1 : Opens P f1.type b gb)
   (o0 : f0.offset = 0) (o1 : f1.offset = a.sz) (c0 : P.cellsOf f0.type = a.sz) (c1 : P.cellsOf f1.type = b.sz) (ct : P.cellsOf t = a.sz + b.sz) : Opens P t (Kd.pair a b) (fun x => ga x.1 ∧ gb x.2) := by
 intro H enc w fuel cs x h hwt
 obtain ⟨xs, n, _, rfl, hcl, hxl, hf⟩ := DataW.trod_struct ht h
 match xs, hxl with
 | [y0, y1], _ =>
   have g0 := hf 0 f0 rfl
   have g1 := hf 1 f1 rfl
   rw [o0, c0] at g0
   rw [o1, c1] at g1
   unfold DataW.weights at hwt
   rw [ht] at hwt
   simp only [List.map_cons, List.map_nil, DataW.weightsEach, List.all_append, Bool.and_eq_true] at hwt
   obtain ⟨hw0, hw1, _⟩ := hwt
   rw [List.drop_zero] at g0
   obtain ⟨v0, k0, q0⟩ := h0 enc w n _ y0 g0 hw0
   obtain ⟨v1, k1, q1⟩ := h1 enc w n _ y1 g1 hw1
   refine ⟨(v0, v1), ⟨_, _, ?_, k0, k1⟩, q0, q1⟩
   rw [List.take_of_length_le (l := cs.drop a.sz) (by rw [List.length_drop]; omega), List.take_append_drop]
theorem opens_iso {t : TypeId} {d : Kd α} {good : α → Prop} {f : β → α} (g : α → β) (hg : ∀ x, f (g x) = x) (h : Opens P t d good) : Opens P t (Kd.iso d f) (fun y => good (f y)) := by
 intro H enc w fuel cs x hx hw
 obtain ⟨v, k, q⟩ := h enc w fuel cs x hx hw
 exact ⟨g v, by show d.K w (f (g v)) cs; rw [hg]; exact k, by show good (f (g v)); rw [hg]; exact q⟩
theorem open_arg {H : Type} {enc : TypeId × Value → H} {w : World} {t : TypeId} {d : Kd α} {good : α → Prop} {v : Value} {dd : DataW H} {ps : List MemPlace} (ho : Opens P t d good) (h : DataW.Trod enc P w 0 (fun _ => true) true t v dd ps)
   (hw : (dd.weights P t).all (· ≤ reachBytes) = true) : ∃ x, d.K w x v.cells.toList ∧ good x := by
 obtain ⟨fuel, hf⟩ := h
 exact ho enc w fuel _ _ hf hw
theorem weight_at {H : Type} {ts : List TypeId} {ds : List (DataW H)} (h : (DataW.weightsEach P ts ds).all (· ≤ reachBytes) = true) : ∀ {j : Nat} {t : TypeId} {d : DataW H}, ts[j]? = some t → ds[j]? = some d → (d.weights P t).all (· ≤ reachBytes) = true := by
 induction ts generalizing ds with
 | nil => intro j t d ht; simp at ht
 | cons a ts ih =>
   cases ds with
   | nil => intro j t d _ hd; simp at hd
   | cons b ds =>
     unfold DataW.weightsEach at h
     rw [List.all_append, Bool.and_eq_true] at h
     intro j t d ht hd
     cases j with
     | zero =>
       obtain rfl : a = t := by simpa using ht
       obtain rfl : b = d := by simpa using hd
       exact h.1
     | succ j => exact ih h.2 (by simpa using ht) (by simpa using hd)
theorem of_slice {w : World} {e : Nat} {d : Kd α} {xs : List α} {A : Option Addr} {n c : Nat} (h : (Kd.slice e d).K w xs [.slice A n c]) : n = xs.length ∧ xs.length ≤ c ∧ d.C w A xs.length xs := by
 obtain ⟨A', c', he, hl, hc⟩ := h
 simp only [List.cons.injEq, Value.slice.injEq, and_true] at he
 obtain ⟨rfl, rfl, rfl⟩ := he
 exact ⟨rfl, hl, hc⟩
end
end Go.Proofs.Yteeihjpnhjnknaa.Open
namespace Go.Proofs.Yteeihjpnhjnknaa.GAll
open Go.RowKit Go.Proofs.YteeihjpnhjnknaaW.PrintWords Go.Proofs.YteeihjpnhjnknaaW.PrintLast Go.Proofs.YteeihjpnhjnknaaW.PrintMore
attribute [local go_sem] max2_int min2_int max_two min_two max_three min_three max_four min_four   -- for this text's walks alone
set_option linter.unusedVariables false
set_option linter.unusedSimpArgs false
def canon_less_int.l0 : Nat → List Int → List Int → Int → Int → Option (Bool)
 | 0, _, _, _, _ => none
 | k + 1, x0, x1, x7, x8 => if x8 < x7 then (if x8 ≥ (x1.length : Int) then (some false) else (if 0 ≤ x8 then (if x8 < (x0.length : Int) then (if x8 < (x1.length : Int) then (if (rd x0 x8) = (rd x1 x8) then (canon_less_int.l0 k x0 x1 x7 (wrap64 (x8 + 1))) else (some (decide ((rd x0 x8) < (rd x1 x8))))) else (none)) else (none)) else (none))) else (some (decide ((x0.length : Int) < (x1.length : Int))))
def canon_less_int.f (k : Nat) (l0 : List Int) (l1 : List Int) : Option (Bool) := canon_less_int.l0 k l0 l1 (l0.length : Int) 0
theorem canon_less_int.mono_l : ∀ k, (∀ y0 y1 y2 y3, LeO (canon_less_int.l0 k y0 y1 y2 y3) (canon_less_int.l0 (k + 1) y0 y1 y2 y3))
 | 0 => fun _ _ _ _ r h => by simp [canon_less_int.l0] at h
 | k + 1 => by
   have ih0 := canon_less_int.mono_l k
   · intro y0 y1 y2 y3
     unfold canon_less_int.l0
     repeat' first
     | (with_reducible exact ih0 _ _ _ _)
     | (with_reducible exact LeO.refl _)
     | (with_reducible exact LeO.none _)
     | (with_reducible refine LeO.ite ?_ ?_)
     | (with_reducible refine LeO.bind ?_ (fun _ => ?_))
     | exact ih0 _ _ _ _
     | exact LeO.none _
     | refine LeO.ite ?_ ?_
     | refine LeO.bind ?_ (fun _ => ?_)
theorem canon_less_int.mono : ∀ a0 a1 k, LeO (canon_less_int.f k a0 a1) (canon_less_int.f (k + 1) a0 a1) := by
 intro a0 a1 k
 have ih0 := canon_less_int.mono_l k
 unfold canon_less_int.f
 repeat' first
     | (with_reducible exact ih0 _ _ _ _)
     | (with_reducible exact LeO.refl _)
     | (with_reducible exact LeO.none _)
     | (with_reducible refine LeO.ite ?_ ?_)
     | (with_reducible refine LeO.bind ?_ (fun _ => ?_))
     | exact ih0 _ _ _ _
     | exact LeO.none _
     | refine LeO.ite ?_ ?_
     | refine LeO.bind ?_ (fun _ => ?_)
set_option maxHeartbeats 8000000 in
set_option maxRecDepth 100000 in
theorem canon_less_int.calls (k : Nat) (A0 : Option Addr) (c0 : Nat) (l0 : List Int) (A1 : Option Addr) (c1 : Nat) (l1 : List Int) (r : Bool) (w : World) (hr0 : Kd.C (Kd.int .i64) w A0 l0.length l0) (hc0 : l0.length ≤ c0) (hr1 : Kd.C (Kd.int .i64) w A1 l1.length l1) (hc1 : l1.length ≤ c1) (h : canon_less_int.f k l0 l1 = some r) :
   Calls Try.prog 42 #[.slice A0 l0.length c0, .slice A1 l1.length c1] w fun e w' => e = .returned (.bool r) ∧ Drawn0 w w' := by
 have HR0 := Aside0.mk hr0
 have HC0 := Aside0.mk hc0
 clear hr0 hc0
 have HR1 := Aside0.mk hr1
 have HC1 := Aside0.mk hc1
 clear hr1 hc1
 have H : (canon_less_int.l0 k l0 l1 (l0.length : Int) 0) = some r := h
 clear h
 have H' := Aside0.mk H
 clear H
 go_enter Try.func42, Try.ntmps42
 go_wp2
 repeat (go_quiet (fail); try go_wp2)
 go_loopg [8] k (fun kq v8 w' => ∃ (x8_1 : Int), v8 = .int .i64 x8_1 ∧ Aside0 (canon_less_int.l0 kq l0 l1 (l0.length : Int) x8_1 = some r) ∧ Aside0 (kq ≤ k) ∧ Drawn0 w w')
 case atStart => exact ⟨(0), (by first | rfl | (simp; done) | (simp [*]; done)), H', ⟨Nat.le_refl _⟩, by repeat (first | exact Drawn0.refl _ | apply Drawn0.step)⟩
 case round =>
   clear H'
   try clear c1
   try clear p2
   obtain ⟨x8_1, rfl, HA, HK1, ⟨m1, rfl⟩⟩ := hrel
   cases gk with
   | zero => exact absurd HA.out (by simp [canon_less_int.l0])
   | succ k1 =>
     have H := HA.out
     clear HA
     simp only [canon_less_int.l0] at H
     by_cases c3 : x8_1 < (l0.length : Int)
     · rw [if_pos c3] at H
       have c3b0 : decide (x8_1 < (l0.length : Int)) = true := decide_eq_true c3
       clear c3
       by_cases c4 : x8_1 ≥ (l1.length : Int)
       · rw [if_pos c4] at H
         have c4b0 : decide ((l1.length : Int) ≤ x8_1) = true := decide_eq_true c4
         clear c4
         obtain rfl := Option.some.inj H
         go_wp2
         repeat (go_quiet (fail); try go_wp2)
         go_ret
         exact ⟨by first | rfl | (simp; done) | (simp [*]; done), by repeat (first | exact Drawn0.refl _ | apply Drawn0.step)⟩
       · rw [if_neg c4] at H
         have c4b0 : decide ((l1.length : Int) ≤ x8_1) = false := decide_eq_false c4
         clear c4
         by_cases c5 : 0 ≤ x8_1
         · rw [if_pos c5] at H
           have c5b0 : decide (0 ≤ x8_1) = true := decide_eq_true c5
           clear c5
           by_cases c6 : x8_1 < (l0.length : Int)
           · rw [if_pos c6] at H
             have c6b0 : decide (x8_1 < (l0.length : Int)) = true := decide_eq_true c6
             clear c6
             by_cases c7 : x8_1 < (l1.length : Int)
             · rw [if_pos c7] at H
               have c7b0 : decide (x8_1 < (l1.length : Int)) = true := decide_eq_true c7
               clear c7
               by_cases c8 : (rd l0 x8_1) = (rd l1 x8_1)
               · rw [if_pos c8] at H
                 have c8b0 : ((rd l0 x8_1) == (rd l1 x8_1)) = true := beq_iff_eq.mpr c8
                 have c8b1 : ((rd l0 x8_1) != (rd l1 x8_1)) = false := bne_eq_false_iff_eq.mpr c8
                 clear c8
                 have H' := Aside0.mk H
                 clear H
                 have p114 : 0 ≤ (x8_1 : Int) := of_decide_eq_true (by first | (with_reducible assumption) | assumption)
                 have q114 : x8_1 < (l0.length : Int) := of_decide_eq_true (by first | (with_reducible assumption) | assumption)
                 obtain ⟨ad114, e114, hx114_0⟩ := Kd.at_int HR0.out x8_1 p114 q114
                 cases e114
                 replace p114 := eq_true p114
                 replace q114 := eq_true q114
                 have p115 : 0 ≤ (x8_1 : Int) := of_decide_eq_true (by first | (with_reducible assumption) | assumption)
                 have q115 : x8_1 < (l1.length : Int) := of_decide_eq_true (by first | (with_reducible assumption) | assumption)
                 obtain ⟨ad115, e115, hx115_0⟩ := Kd.at_int HR1.out x8_1 p115 q115
                 cases e115
                 replace p115 := eq_true p115
                 replace q115 := eq_true q115
                 go_wp2
                 repeat (go_quiet (fail); try go_wp2)
                 go_roundg k1
                 case measure => have := HK1.out; omega
                 case rel => exact ⟨(wrap64 (x8_1 + 1)), (by first | rfl | (simp; done) | (simp [*]; done)), H', ⟨by have := HK1.out; omega⟩, by repeat (first | exact Drawn0.refl _ | apply Drawn0.step)⟩
               · rw [if_neg c8] at H
                 have c8b0 : ((rd l0 x8_1) == (rd l1 x8_1)) = false := beq_eq_false_iff_ne.mpr c8
                 have c8b1 : ((rd l0 x8_1) != (rd l1 x8_1)) = true := bne_iff_ne.mpr c8
                 obtain rfl := Option.some.inj H
                 have p114 : 0 ≤ (x8_1 : Int) := of_decide_eq_true (by first | (with_reducible assumption) | assumption)
                 have q114 : x8_1 < (l0.length : Int) := of_decide_eq_true (by first | (with_reducible assumption) | assumption)
                 obtain ⟨ad114, e114, hx114_0⟩ := Kd.at_int HR0.out x8_1 p114 q114
                 cases e114
                 replace p114 := eq_true p114
                 replace q114 := eq_true q114
                 have p115 : 0 ≤ (x8_1 : Int) := of_decide_eq_true (by first | (with_reducible assumption) | assumption)
                 have q115 : x8_1 < (l1.length : Int) := of_decide_eq_true (by first | (with_reducible assumption) | assumption)
                 obtain ⟨ad115, e115, hx115_0⟩ := Kd.at_int HR1.out x8_1 p115 q115
                 cases e115
                 replace p115 := eq_true p115
                 replace q115 := eq_true q115
                 have p116 : 0 ≤ (x8_1 : Int) := of_decide_eq_true (by first | (with_reducible assumption) | assumption)
                 have q116 : x8_1 < (l0.length : Int) := of_decide_eq_true (by first | (with_reducible assumption) | assumption)
                 obtain ⟨ad116, e116, hx116_0⟩ := Kd.at_int HR0.out x8_1 p116 q116
                 obtain rfl : ad114 = ad116 := (by injection e116)
                 replace p116 := eq_true p116
                 replace q116 := eq_true q116
                 have p117 : 0 ≤ (x8_1 : Int) := of_decide_eq_true (by first | (with_reducible assumption) | assumption)
                 have q117 : x8_1 < (l1.length : Int) := of_decide_eq_true (by first | (with_reducible assumption) | assumption)
                 obtain ⟨ad117, e117, hx117_0⟩ := Kd.at_int HR1.out x8_1 p117 q117
                 obtain rfl : ad115 = ad117 := (by injection e117)
                 replace p117 := eq_true p117
                 replace q117 := eq_true q117
                 go_wp2
                 repeat (go_quiet (fail); try go_wp2)
                 go_ret
                 exact ⟨by first | rfl | (simp; done) | (simp [*]; done), by repeat (first | exact Drawn0.refl _ | apply Drawn0.step)⟩
             · rw [if_neg c7] at H
               exact absurd H (by simp)
           · rw [if_neg c6] at H
             exact absurd H (by simp)
         · rw [if_neg c5] at H
           exact absurd H (by simp)
     · rw [if_neg c3] at H
       have c3b0 : decide (x8_1 < (l0.length : Int)) = false := decide_eq_false c3
       clear c3
       obtain rfl := Option.some.inj H
       go_wp2
       repeat (go_quiet (fail); try go_wp2)
       go_ret
       exact ⟨by first | rfl | (simp; done) | (simp [*]; done), by repeat (first | exact Drawn0.refl _ | apply Drawn0.step)⟩
end Go.Proofs.Yteeihjpnhjnknaa.GAll
namespace Go.Proofs.Yteeihjpnhjnknaa.GAll
open Go.RowKit Go.Proofs.YteeihjpnhjnknaaW.PrintWords Go.Proofs.YteeihjpnhjnknaaW.PrintLast Go.Proofs.YteeihjpnhjnknaaW.PrintMore
attribute [local go_sem] max2_int min2_int max_two min_two max_three min_three max_four min_four   -- for this text's walks alone
set_option linter.unusedVariables false
set_option linter.unusedSimpArgs false
def canon_plane_best.l0 : Nat → List Int → List Int → Int → Int → Int → List Int → List Int → Option (List Int × List Int × Int)
 | 0, _, _, _, _, _, _, _ => none
 | k + 1, x5, x6, x7, x8, x119000, x119001, x119002 => if x8 < (x119001.length : Int) then ((canon_plane_code.f k x119000 x119001 x119002 x8).bind fun bt125 => ((canon_less_int.f k bt125.1 x5).bind fun t131 => (if t131 = true then (canon_plane_best.l0 k bt125.1 bt125.2 1 (wrap64 (x8 + 1)) x119000 x119001 x119002) else ((canon_less_int.f k x5 bt125.1).bind fun t132 => (if t132 = true then (canon_plane_best.l0 k x5 x6 x7 (wrap64 (x8 + 1)) x119000 x119001 x119002) else (canon_plane_best.l0 k x5 x6 (wrap64 (x7 + 1)) (wrap64 (x8 + 1)) x119000 x119001 x119002)))))) else (some (x5, x6, x7))
def canon_plane_best.f (k : Nat) (a0_0 : Int) (l0_1 : List Int) (l0_2 : List Int) : Option (List Int × List Int × Int) := (canon_plane_code.f k a0_0 l0_1 l0_2 0).bind fun bt119 => (canon_plane_best.l0 k bt119.1 bt119.2 1 1 a0_0 l0_1 l0_2)
theorem canon_plane_best.mono_l : ∀ k, (∀ y0 y1 y2 y3 y4 y5 y6, LeO (canon_plane_best.l0 k y0 y1 y2 y3 y4 y5 y6) (canon_plane_best.l0 (k + 1) y0 y1 y2 y3 y4 y5 y6))
 | 0 => fun _ _ _ _ _ _ _ r h => by simp [canon_plane_best.l0] at h
 | k + 1 => by
   have ih0 := canon_plane_best.mono_l k
   · intro y0 y1 y2 y3 y4 y5 y6
     unfold canon_plane_best.l0
     repeat' first
     | (with_reducible exact ih0 _ _ _ _ _ _ _)
     | (with_reducible exact canon_less_int.mono _ _ _)
     | (with_reducible exact canon_plane_code.mono _ _ _ _ _)
     | (with_reducible exact LeO.refl _)
     | (with_reducible exact LeO.none _)
     | (with_reducible refine LeO.ite ?_ ?_)
     | (with_reducible refine LeO.bind ?_ (fun _ => ?_))
     | exact ih0 _ _ _ _ _ _ _
     | exact canon_less_int.mono _ _ _
     | exact canon_plane_code.mono _ _ _ _ _
     | exact LeO.none _
     | refine LeO.ite ?_ ?_
     | refine LeO.bind ?_ (fun _ => ?_)
theorem canon_plane_best.mono : ∀ a0 a1 a2 k, LeO (canon_plane_best.f k a0 a1 a2) (canon_plane_best.f (k + 1) a0 a1 a2) := by
 intro a0 a1 a2 k
 have ih0 := canon_plane_best.mono_l k
 unfold canon_plane_best.f
 repeat' first
     | (with_reducible exact ih0 _ _ _ _ _ _ _)
     | (with_reducible exact canon_less_int.mono _ _ _)
     | (with_reducible exact canon_plane_code.mono _ _ _ _ _)
     | (with_reducible exact LeO.refl _)
     | (with_reducible exact LeO.none _)
     | (with_reducible refine LeO.ite ?_ ?_)
     | (with_reducible refine LeO.bind ?_ (fun _ => ?_))
     | exact ih0 _ _ _ _ _ _ _
     | exact canon_less_int.mono _ _ _
     | exact canon_plane_code.mono _ _ _ _ _
     | exact LeO.none _
     | refine LeO.ite ?_ ?_
     | refine LeO.bind ?_ (fun _ => ?_)
set_option maxHeartbeats 8000000 in
set_option maxRecDepth 100000 in
theorem canon_plane_best.calls (k : Nat) (a0_0 : Int) (A0_1 : Option Addr) (c0_1 : Nat) (l0_1 : List Int) (A0_2 : Option Addr) (c0_2 : Nat) (l0_2 : List Int) (r1 : List Int) (r2 : List Int) (r3 : Int) (w : World) (hr0_1 : Kd.C (Kd.int .i64) w A0_1 l0_1.length l0_1) (hc0_1 : l0_1.length ≤ c0_1) (hr0_2 : Kd.C (Kd.int .i64) w A0_2 l0_2.length l0_2) (hc0_2 : l0_2.length ≤ c0_2) (h : canon_plane_best.f k a0_0 l0_1 l0_2 = some (r1, r2, r3)) :
   Calls Try.prog 39 #[.agg #[.int .i64 a0_0, .slice A0_1 l0_1.length c0_1, .slice A0_2 l0_2.length c0_2]] w fun e w' => ∃ v0_ v1_ : Value, e = .returned (.tuple #[v0_, v1_, .int .i64 r3]) ∧ Kd.R (Kd.int .i64) 3 w' w.heap.size (fun k_ => some k_ ≠ (v1_ : Value).ownBlock) v0_ r1 ∧ Kd.R (Kd.int .i64) 3 w' w.heap.size (fun k_ => some k_ ≠ (v0_ : Value).ownBlock) v1_ r2 ∧ Below w.heap.size w w' := by
 have hu69 := Try.underlying69
 have HR0_1 := Aside0.mk hr0_1
 have HC0_1 := Aside0.mk hc0_1
 clear hr0_1 hc0_1
 have HR0_2 := Aside0.mk hr0_2
 have HC0_2 := Aside0.mk hc0_2
 clear hr0_2 hc0_2
 have HB := Aside0.mk (Below.refl w.heap.size w)
 have H : ((canon_plane_code.f k a0_0 l0_1 l0_2 0).bind fun bt119 => (canon_plane_best.l0 k bt119.1 bt119.2 1 1 a0_0 l0_1 l0_2)) = some (r1, r2, r3) := h
 clear h
 replace H := Option.bind_eq_some_iff.mp H
 obtain ⟨⟨t119, t122⟩, A20, H⟩ := H
 replace H : (canon_plane_best.l0 k t119 t122 1 1 a0_0 l0_1 l0_2) = some (r1, r2, r3) := H
 have A2 := Aside0.mk A20
 clear A20
 have H' := Aside0.mk H
 clear H
 go_enter Try.func39, Try.ntmps39
 go_wp2_with (first | ((with_reducible refine gate_dst (N := 1) rfl ?_); refine box_event ?hg (N := 1) ?hd (cs := #[.int .i64 a0_0, .slice A0_1 l0_1.length c0_1, .slice A0_2 l0_2.length c0_2]) (t := 69) ?hr ?_; (case hd => rfl); (case hg => rfl); (case hr => first | (go_simp; done) | (go_simp; rfl)); intro gb118 hg w3 hbox hb; have n0_ := Aside0.mk (below_step (by repeat (first | (with_reducible first | exact HB.out | apply below_alloc | apply pw_below_drewN | apply below_drew1) | exact HB.out)) hb); have n1_ := Aside0.mk (hbox); have n2_ := Aside0.mk ((by rw [hg]; exact (below_size (by repeat (first | (with_reducible first | exact HB.out | apply below_alloc | apply pw_below_drewN | apply below_drew1) | exact HB.out))) : w.heap.size ≤ gb118)); have n3_ := Aside0.mk ((by rw [hg]; exact (below_size (by repeat (first | (with_reducible first | exact HB.out | apply below_alloc | apply pw_below_drewN | apply below_drew1) | exact HB.out))) : w.heap.size ≤ gb118)); clear HB; have HB := n0_; have BK118 := n1_; have GW118 := n2_; have GE118 := n3_; clear n0_ n1_ n2_ n3_; clear hb hbox hg; have hcz4_0 : w3.cell? ⟨gb118, 0, none⟩ = some (.int .i64 a0_0) := (blk_cell BK118.out 0).trans rfl; have hcz4_1 : w3.cell? ⟨gb118, 1, none⟩ = some (.slice A0_1 l0_1.length c0_1) := (blk_cell BK118.out 1).trans rfl; have hcz4_2 : w3.cell? ⟨gb118, 2, none⟩ = some (.slice A0_2 l0_2.length c0_2) := (blk_cell BK118.out 2).trans rfl; have hfz4_0 := blk_frozen BK118.out 0; have hfz4_1 := blk_frozen BK118.out 1; have hfz4_2 := blk_frozen BK118.out 2) | ((with_reducible refine gate_callee (f := 37) rfl ?_); refine goesL_ (some 13) rfl rfl Try.func37 (by kernel_rfl) rfl #[.agg #[.int .i64 a0_0, .slice A0_1 l0_1.length c0_1, .slice A0_2 l0_2.length c0_2], .int .i64 0] rfl (by (try simp only [List.map_toArray, List.map_cons, List.map_nil]); first | done | rfl | (simp only [List.length_drop, List.length_take]; rfl)) ?_; (with_reducible refine (canon_plane_code.calls k a0_0 _ _ l0_1 _ _ l0_2 0 t119 t122 _ ?side1 ?side2 ?side3 ?side4 A2.out).mono ?_); (case side1 => repeat (first | exact (Kd.C_below HR0_1.out HB.out) | (with_reducible refine Kd.C_alloc ?_ _) | (with_reducible refine Kd.C_drewN ?_ _) | (with_reducible refine Kd.C_drew ?_))); (case side2 => exact HC0_1.out); (case side3 => repeat (first | exact (Kd.C_below HR0_2.out HB.out) | (with_reducible refine Kd.C_alloc ?_ _) | (with_reducible refine Kd.C_drewN ?_ _) | (with_reducible refine Kd.C_drew ?_))); (case side4 => exact HC0_2.out); rintro e w5 ⟨v120, v123, rfl, ho0, ho1, hb⟩; refine ⟨_, rfl, ?_⟩; have n0_ := Aside0.mk (Kd.R_lower ho0 (below_size (by repeat (first | (with_reducible first | exact HB.out | apply below_alloc | apply pw_below_drewN | apply below_drew1 | refine below_set ?_ GE118.out) | exact HB.out)))); have n1_ := Aside0.mk (Kd.R_lower ho1 (below_size (by repeat (first | (with_reducible first | exact HB.out | apply below_alloc | apply pw_below_drewN | apply below_drew1 | refine below_set ?_ GE118.out) | exact HB.out)))); have n2_ := Aside0.mk (blk_below (g := gb118) (o := .cells #[.int .i64 a0_0, .slice A0_1 l0_1.length c0_1, .slice A0_2 l0_2.length c0_2] 69 (0, 0)) (by (with_reducible repeat (first | refine blk_drewN ?_ _ | refine blk_drew ?_ | refine blk_alloc ?_ _)); exact BK118.out) hb); have n3_ := Aside0.mk (below_step (by repeat (first | (with_reducible first | exact HB.out | apply below_alloc | apply pw_below_drewN | apply below_drew1 | refine below_set ?_ GE118.out) | exact HB.out)) hb); clear BK118; clear HB; have HO121 := n0_; have HO124 := n1_; have BK118 := n2_; have HB := n3_; clear n0_ n1_ n2_ n3_; (try clear hb); (try clear hb2); (try clear hk); (try clear hi); (try clear ho0); (try clear ho1)))
 go_loopg [5, 6, 7, 8] k (fun kq v5 v6 v7 v8 w' => ∃ (x5_1 : List Int) (x6_1 : List Int) (x7_1 : Int) (x8_1 : Int), v7 = .int .i64 x7_1 ∧ v8 = .int .i64 x8_1 ∧ Aside0 (canon_plane_best.l0 kq x5_1 x6_1 x7_1 x8_1 a0_0 l0_1 l0_2 = some (r1, r2, r3)) ∧ Aside0 (kq ≤ k) ∧ Aside0 (Kd.R (Kd.int .i64) 3 w' w.heap.size (fun k_ => some k_ ≠ (v6 : Value).ownBlock) v5 x5_1) ∧ Aside0 (Kd.R (Kd.int .i64) 3 w' w.heap.size (fun k_ => some k_ ≠ (v5 : Value).ownBlock) v6 x6_1) ∧ Aside0 (w'.heap[gb118]? = some (.cells #[.int .i64 a0_0, (.slice A0_1 l0_1.length c0_1), (.slice A0_2 l0_2.length c0_2)] 69 (0, 0))) ∧ Aside0 (Below w.heap.size w w'))
 case atStart => exact ⟨(t119), (t122), (1), (1), (by first | rfl | (simp; done) | (simp [*]; done)), (by first | rfl | (simp; done) | (simp [*]; done)), H', ⟨Nat.le_refl _⟩, ⟨by (with_reducible repeat (first | apply Kd.R_alloc | apply Kd.R_drewN | apply Kd.R_drew)); exact HO121.out⟩, ⟨by (with_reducible repeat (first | apply Kd.R_alloc | apply Kd.R_drewN | apply Kd.R_drew)); exact HO124.out⟩, ⟨by (with_reducible repeat (first | refine blk_drewN ?_ _ | refine blk_drew ?_ | refine blk_alloc ?_ _)); exact BK118.out⟩, ⟨by repeat (first | (with_reducible first | exact HB.out | apply below_alloc | apply pw_below_drewN | apply below_drew1 | refine below_set ?_ GE118.out) | exact HB.out)⟩⟩
 case round =>
   clear H'
   try clear p2
   try clear c3
   try clear hcz4_0
   try clear hcz4_1
   try clear hcz4_2
   try clear hfz4_0
   try clear hfz4_1
   try clear hfz4_2
   obtain ⟨x5_1, x6_1, x7_1, x8_1, rfl, rfl, HA, HK1, HO_5, HO_6, BK118, HB⟩ := hrel
   cases gk with
   | zero => exact absurd HA.out (by simp [canon_plane_best.l0])
   | succ k1 =>
     have H := HA.out
     clear HA
     simp only [canon_plane_best.l0] at H
     by_cases c6 : x8_1 < (l0_1.length : Int)
     · rw [if_pos c6] at H
       have c6b0 : decide (x8_1 < (l0_1.length : Int)) = true := decide_eq_true c6
       clear c6
       replace H := Option.bind_eq_some_iff.mp H
       obtain ⟨⟨t125, t128⟩, A70, H⟩ := H
       replace H : ((canon_less_int.f k1 t125 x5_1).bind fun t131 => (if t131 = true then (canon_plane_best.l0 k1 t125 t128 1 (wrap64 (x8_1 + 1)) a0_0 l0_1 l0_2) else ((canon_less_int.f k1 x5_1 t125).bind fun t132 => (if t132 = true then (canon_plane_best.l0 k1 x5_1 x6_1 x7_1 (wrap64 (x8_1 + 1)) a0_0 l0_1 l0_2) else (canon_plane_best.l0 k1 x5_1 x6_1 (wrap64 (x7_1 + 1)) (wrap64 (x8_1 + 1)) a0_0 l0_1 l0_2))))) = some (r1, r2, r3) := H
       have A7 := Aside0.mk A70
       clear A70
       replace H := Option.bind_eq_some_iff.mp H
       obtain ⟨t131, A80, H⟩ := H
       replace H : (if t131 = true then (canon_plane_best.l0 k1 t125 t128 1 (wrap64 (x8_1 + 1)) a0_0 l0_1 l0_2) else ((canon_less_int.f k1 x5_1 t125).bind fun t132 => (if t132 = true then (canon_plane_best.l0 k1 x5_1 x6_1 x7_1 (wrap64 (x8_1 + 1)) a0_0 l0_1 l0_2) else (canon_plane_best.l0 k1 x5_1 x6_1 (wrap64 (x7_1 + 1)) (wrap64 (x8_1 + 1)) a0_0 l0_1 l0_2)))) = some (r1, r2, r3) := H
       have A8 := Aside0.mk A80
       clear A80
       by_cases c9 : t131 = true
       · subst c9
         have H1 : (canon_plane_best.l0 k1 t125 t128 1 (wrap64 (x8_1 + 1)) a0_0 l0_1 l0_2) = some (r1, r2, r3) := by rw [if_pos rfl] at H; exact H
         clear H
         have H := H1
         clear H1
         have H' := Aside0.mk H
         clear H
         have hcz10_0 : wr.cell? ⟨gb118, 0, none⟩ = some (.int .i64 a0_0) := (blk_cell BK118.out 0).trans rfl
         have hcz10_1 : wr.cell? ⟨gb118, 1, none⟩ = some (.slice A0_1 l0_1.length c0_1) := (blk_cell BK118.out 1).trans rfl
         have hcz10_2 : wr.cell? ⟨gb118, 2, none⟩ = some (.slice A0_2 l0_2.length c0_2) := (blk_cell BK118.out 2).trans rfl
         have hfz10_0 := blk_frozen BK118.out 0
         have hfz10_1 := blk_frozen BK118.out 1
         have hfz10_2 := blk_frozen BK118.out 2
         go_wp2_with (first | ((with_reducible refine gate_callee (f := 37) rfl ?_); refine goesL_ (some 26) rfl rfl Try.func37 (by kernel_rfl) rfl #[.agg #[.int .i64 a0_0, .slice A0_1 l0_1.length c0_1, .slice A0_2 l0_2.length c0_2], .int .i64 x8_1] rfl (by (try simp only [List.map_toArray, List.map_cons, List.map_nil]); first | done | rfl | (simp only [List.length_drop, List.length_take]; rfl)) ?_; (with_reducible refine (canon_plane_code.calls k1 a0_0 _ _ l0_1 _ _ l0_2 x8_1 t125 t128 _ ?side1 ?side2 ?side3 ?side4 A7.out).mono ?_); (case side1 => repeat (first | exact (Kd.C_below HR0_1.out HB.out) | (with_reducible refine Kd.C_alloc ?_ _) | (with_reducible refine Kd.C_drewN ?_ _) | (with_reducible refine Kd.C_drew ?_))); (case side2 => exact HC0_1.out); (case side3 => repeat (first | exact (Kd.C_below HR0_2.out HB.out) | (with_reducible refine Kd.C_alloc ?_ _) | (with_reducible refine Kd.C_drewN ?_ _) | (with_reducible refine Kd.C_drew ?_))); (case side4 => exact HC0_2.out); rintro e w11 ⟨v126, v129, rfl, ho0, ho1, hb⟩; refine ⟨_, rfl, ?_⟩; have n0_ := Aside0.mk (Kd.R_mono (Kd.R_told (Kd.R_told (Kd.R_old (by (with_reducible repeat (first | apply Kd.R_alloc | apply Kd.R_drewN | apply Kd.R_drew)); exact HO_5.out) hb) (Kd.R_base ho0)) (Kd.R_base ho1)) (fun _ h_ => h_.1)); have n1_ := Aside0.mk (Kd.R_mono (Kd.R_told (Kd.R_told (Kd.R_old (by (with_reducible repeat (first | apply Kd.R_alloc | apply Kd.R_drewN | apply Kd.R_drew)); exact HO_6.out) hb) (Kd.R_base ho0)) (Kd.R_base ho1)) (fun _ h_ => h_.1)); have n2_ := Aside0.mk (Kd.R_lower (Kd.R_new' (Kd.R_new' ho0 (Kd.R_lt (by (with_reducible repeat (first | apply Kd.R_alloc | apply Kd.R_drewN | apply Kd.R_drew)); exact HO_5.out))) (Kd.R_lt (by (with_reducible repeat (first | apply Kd.R_alloc | apply Kd.R_drewN | apply Kd.R_drew)); exact HO_6.out))) (below_size (by repeat (first | (with_reducible first | exact HB.out | apply below_alloc | apply pw_below_drewN | apply below_drew1 | refine below_set ?_ GE118.out) | exact HB.out)))); have n3_ := Aside0.mk (Kd.R_lower (Kd.R_new' (Kd.R_new' ho1 (Kd.R_lt (by (with_reducible repeat (first | apply Kd.R_alloc | apply Kd.R_drewN | apply Kd.R_drew)); exact HO_5.out))) (Kd.R_lt (by (with_reducible repeat (first | apply Kd.R_alloc | apply Kd.R_drewN | apply Kd.R_drew)); exact HO_6.out))) (below_size (by repeat (first | (with_reducible first | exact HB.out | apply below_alloc | apply pw_below_drewN | apply below_drew1 | refine below_set ?_ GE118.out) | exact HB.out)))); have n4_ := Aside0.mk (blk_below (g := gb118) (o := .cells #[.int .i64 a0_0, .slice A0_1 l0_1.length c0_1, .slice A0_2 l0_2.length c0_2] 69 (0, 0)) (by (with_reducible repeat (first | refine blk_drewN ?_ _ | refine blk_drew ?_ | refine blk_alloc ?_ _)); exact BK118.out) hb); have n5_ := Aside0.mk (below_step (by repeat (first | (with_reducible first | exact HB.out | apply below_alloc | apply pw_below_drewN | apply below_drew1 | refine below_set ?_ GE118.out) | exact HB.out)) hb); clear HO_5; clear HO_6; clear BK118; clear HB; have HO_5 := n0_; have HO_6 := n1_; have HO127 := n2_; have HO130 := n3_; have BK118 := n4_; have HB := n5_; clear n0_ n1_ n2_ n3_ n4_ n5_; (try clear hb); (try clear hb2); (try clear hk); (try clear hi); (try clear ho0); (try clear ho1); obtain ⟨Ao12, co12, eo12⟩ := Kd.R_slice HO127.out; subst eo12; obtain ⟨Ao13, co13, eo13⟩ := Kd.R_slice HO_5.out; subst eo13) | ((with_reducible refine gate_callee (f := 42) rfl ?_); refine goesL_ (some 32) rfl rfl Try.func42 (by kernel_rfl) rfl #[.slice Ao12 t125.length co12, .slice Ao13 x5_1.length co13] rfl (by (try simp only [List.map_toArray, List.map_cons, List.map_nil]); first | done | rfl | (simp only [List.length_drop, List.length_take]; rfl)) ?_; (with_reducible refine (canon_less_int.calls k1 _ _ t125 _ _ x5_1 true _ ?side1 ?side2 ?side3 ?side4 A8.out).mono ?_); (case side1 => repeat (first | exact (Kd.R_reads' HO127.out).2.2 | (with_reducible refine Kd.C_alloc ?_ _) | (with_reducible refine Kd.C_drewN ?_ _) | (with_reducible refine Kd.C_drew ?_))); (case side2 => exact (Kd.R_reads' HO127.out).2.1); (case side3 => repeat (first | exact (Kd.R_reads' HO_5.out).2.2 | (with_reducible refine Kd.C_alloc ?_ _) | (with_reducible refine Kd.C_drewN ?_ _) | (with_reducible refine Kd.C_drew ?_))); (case side4 => exact (Kd.R_reads' HO_5.out).2.1); rintro e w' ⟨rfl, ⟨nd, rfl⟩⟩; refine ⟨_, rfl, ?_⟩))
         go_roundg k1
         case measure => have := HK1.out; omega
         case rel => exact ⟨(t125), (t128), (1), (wrap64 (x8_1 + 1)), (by first | rfl | (simp; done) | (simp [*]; done)), (by first | rfl | (simp; done) | (simp [*]; done)), H', ⟨by have := HK1.out; omega⟩, ⟨by (with_reducible repeat (first | apply Kd.R_alloc | apply Kd.R_drewN | apply Kd.R_drew)); exact Kd.R_mono HO127.out (fun _ hk => hk.1.1)⟩, ⟨by (with_reducible repeat (first | apply Kd.R_alloc | apply Kd.R_drewN | apply Kd.R_drew)); exact Kd.R_mono HO130.out (fun _ hk => hk.1.1)⟩, ⟨by (with_reducible repeat (first | refine blk_drewN ?_ _ | refine blk_drew ?_ | refine blk_alloc ?_ _)); exact BK118.out⟩, ⟨by repeat (first | (with_reducible first | exact HB.out | apply below_alloc | apply pw_below_drewN | apply below_drew1 | refine below_set ?_ GE118.out) | exact HB.out)⟩⟩
       · replace c9 := Bool.eq_false_iff.mpr c9
         subst c9
         have H1 : ((canon_less_int.f k1 x5_1 t125).bind fun t132 => (if t132 = true then (canon_plane_best.l0 k1 x5_1 x6_1 x7_1 (wrap64 (x8_1 + 1)) a0_0 l0_1 l0_2) else (canon_plane_best.l0 k1 x5_1 x6_1 (wrap64 (x7_1 + 1)) (wrap64 (x8_1 + 1)) a0_0 l0_1 l0_2))) = some (r1, r2, r3) := by rw [if_neg (show ¬ (false = true) by decide)] at H; exact H
         clear H
         have H := H1
         clear H1
         replace H := Option.bind_eq_some_iff.mp H
         obtain ⟨t132, A140, H⟩ := H
         replace H : (if t132 = true then (canon_plane_best.l0 k1 x5_1 x6_1 x7_1 (wrap64 (x8_1 + 1)) a0_0 l0_1 l0_2) else (canon_plane_best.l0 k1 x5_1 x6_1 (wrap64 (x7_1 + 1)) (wrap64 (x8_1 + 1)) a0_0 l0_1 l0_2)) = some (r1, r2, r3) := H
         have A14 := Aside0.mk A140
         clear A140
         by_cases c15 : t132 = true
         · subst c15
           have H1 : (canon_plane_best.l0 k1 x5_1 x6_1 x7_1 (wrap64 (x8_1 + 1)) a0_0 l0_1 l0_2) = some (r1, r2, r3) := by rw [if_pos rfl] at H; exact H
           clear H
           have H := H1
           clear H1
           have H' := Aside0.mk H
           clear H
           have hcz16_0 : wr.cell? ⟨gb118, 0, none⟩ = some (.int .i64 a0_0) := (blk_cell BK118.out 0).trans rfl
           have hcz16_1 : wr.cell? ⟨gb118, 1, none⟩ = some (.slice A0_1 l0_1.length c0_1) := (blk_cell BK118.out 1).trans rfl
           have hcz16_2 : wr.cell? ⟨gb118, 2, none⟩ = some (.slice A0_2 l0_2.length c0_2) := (blk_cell BK118.out 2).trans rfl
           have hfz16_0 := blk_frozen BK118.out 0
           have hfz16_1 := blk_frozen BK118.out 1
           have hfz16_2 := blk_frozen BK118.out 2
           go_wp2_with (first | ((with_reducible refine gate_callee (f := 37) rfl ?_); refine goesL_ (some 26) rfl rfl Try.func37 (by kernel_rfl) rfl #[.agg #[.int .i64 a0_0, .slice A0_1 l0_1.length c0_1, .slice A0_2 l0_2.length c0_2], .int .i64 x8_1] rfl (by (try simp only [List.map_toArray, List.map_cons, List.map_nil]); first | done | rfl | (simp only [List.length_drop, List.length_take]; rfl)) ?_; (with_reducible refine (canon_plane_code.calls k1 a0_0 _ _ l0_1 _ _ l0_2 x8_1 t125 t128 _ ?side1 ?side2 ?side3 ?side4 A7.out).mono ?_); (case side1 => repeat (first | exact (Kd.C_below HR0_1.out HB.out) | (with_reducible refine Kd.C_alloc ?_ _) | (with_reducible refine Kd.C_drewN ?_ _) | (with_reducible refine Kd.C_drew ?_))); (case side2 => exact HC0_1.out); (case side3 => repeat (first | exact (Kd.C_below HR0_2.out HB.out) | (with_reducible refine Kd.C_alloc ?_ _) | (with_reducible refine Kd.C_drewN ?_ _) | (with_reducible refine Kd.C_drew ?_))); (case side4 => exact HC0_2.out); rintro e w17 ⟨v126, v129, rfl, ho0, ho1, hb⟩; refine ⟨_, rfl, ?_⟩; have n0_ := Aside0.mk (Kd.R_mono (Kd.R_told (Kd.R_told (Kd.R_old (by (with_reducible repeat (first | apply Kd.R_alloc | apply Kd.R_drewN | apply Kd.R_drew)); exact HO_5.out) hb) (Kd.R_base ho0)) (Kd.R_base ho1)) (fun _ h_ => h_.1)); have n1_ := Aside0.mk (Kd.R_mono (Kd.R_told (Kd.R_told (Kd.R_old (by (with_reducible repeat (first | apply Kd.R_alloc | apply Kd.R_drewN | apply Kd.R_drew)); exact HO_6.out) hb) (Kd.R_base ho0)) (Kd.R_base ho1)) (fun _ h_ => h_.1)); have n2_ := Aside0.mk (Kd.R_lower (Kd.R_new' (Kd.R_new' ho0 (Kd.R_lt (by (with_reducible repeat (first | apply Kd.R_alloc | apply Kd.R_drewN | apply Kd.R_drew)); exact HO_5.out))) (Kd.R_lt (by (with_reducible repeat (first | apply Kd.R_alloc | apply Kd.R_drewN | apply Kd.R_drew)); exact HO_6.out))) (below_size (by repeat (first | (with_reducible first | exact HB.out | apply below_alloc | apply pw_below_drewN | apply below_drew1 | refine below_set ?_ GE118.out) | exact HB.out)))); have n3_ := Aside0.mk (Kd.R_lower (Kd.R_new' (Kd.R_new' ho1 (Kd.R_lt (by (with_reducible repeat (first | apply Kd.R_alloc | apply Kd.R_drewN | apply Kd.R_drew)); exact HO_5.out))) (Kd.R_lt (by (with_reducible repeat (first | apply Kd.R_alloc | apply Kd.R_drewN | apply Kd.R_drew)); exact HO_6.out))) (below_size (by repeat (first | (with_reducible first | exact HB.out | apply below_alloc | apply pw_below_drewN | apply below_drew1 | refine below_set ?_ GE118.out) | exact HB.out)))); have n4_ := Aside0.mk (blk_below (g := gb118) (o := .cells #[.int .i64 a0_0, .slice A0_1 l0_1.length c0_1, .slice A0_2 l0_2.length c0_2] 69 (0, 0)) (by (with_reducible repeat (first | refine blk_drewN ?_ _ | refine blk_drew ?_ | refine blk_alloc ?_ _)); exact BK118.out) hb); have n5_ := Aside0.mk (below_step (by repeat (first | (with_reducible first | exact HB.out | apply below_alloc | apply pw_below_drewN | apply below_drew1 | refine below_set ?_ GE118.out) | exact HB.out)) hb); clear HO_5; clear HO_6; clear BK118; clear HB; have HO_5 := n0_; have HO_6 := n1_; have HO127 := n2_; have HO130 := n3_; have BK118 := n4_; have HB := n5_; clear n0_ n1_ n2_ n3_ n4_ n5_; (try clear hb); (try clear hb2); (try clear hk); (try clear hi); (try clear ho0); (try clear ho1); obtain ⟨Ao18, co18, eo18⟩ := Kd.R_slice HO127.out; subst eo18; obtain ⟨Ao19, co19, eo19⟩ := Kd.R_slice HO_5.out; subst eo19) | ((with_reducible refine gate_callee (f := 42) rfl ?_); refine goesL_ (some 32) rfl rfl Try.func42 (by kernel_rfl) rfl #[.slice Ao18 t125.length co18, .slice Ao19 x5_1.length co19] rfl (by (try simp only [List.map_toArray, List.map_cons, List.map_nil]); first | done | rfl | (simp only [List.length_drop, List.length_take]; rfl)) ?_; (with_reducible refine (canon_less_int.calls k1 _ _ t125 _ _ x5_1 false _ ?side1 ?side2 ?side3 ?side4 A8.out).mono ?_); (case side1 => repeat (first | exact (Kd.R_reads' HO127.out).2.2 | (with_reducible refine Kd.C_alloc ?_ _) | (with_reducible refine Kd.C_drewN ?_ _) | (with_reducible refine Kd.C_drew ?_))); (case side2 => exact (Kd.R_reads' HO127.out).2.1); (case side3 => repeat (first | exact (Kd.R_reads' HO_5.out).2.2 | (with_reducible refine Kd.C_alloc ?_ _) | (with_reducible refine Kd.C_drewN ?_ _) | (with_reducible refine Kd.C_drew ?_))); (case side4 => exact (Kd.R_reads' HO_5.out).2.1); rintro e w' ⟨rfl, ⟨nd, rfl⟩⟩; refine ⟨_, rfl, ?_⟩) | ((with_reducible refine gate_callee (f := 42) rfl ?_); refine goesL_ (some 38) rfl rfl Try.func42 (by kernel_rfl) rfl #[.slice Ao19 x5_1.length co19, .slice Ao18 t125.length co18] rfl (by (try simp only [List.map_toArray, List.map_cons, List.map_nil]); first | done | rfl | (simp only [List.length_drop, List.length_take]; rfl)) ?_; (with_reducible refine (canon_less_int.calls k1 _ _ x5_1 _ _ t125 true _ ?side1 ?side2 ?side3 ?side4 A14.out).mono ?_); (case side1 => repeat (first | exact (Kd.R_reads' HO_5.out).2.2 | (with_reducible refine Kd.C_alloc ?_ _) | (with_reducible refine Kd.C_drewN ?_ _) | (with_reducible refine Kd.C_drew ?_))); (case side2 => exact (Kd.R_reads' HO_5.out).2.1); (case side3 => repeat (first | exact (Kd.R_reads' HO127.out).2.2 | (with_reducible refine Kd.C_alloc ?_ _) | (with_reducible refine Kd.C_drewN ?_ _) | (with_reducible refine Kd.C_drew ?_))); (case side4 => exact (Kd.R_reads' HO127.out).2.1); rintro e w' ⟨rfl, ⟨nd, rfl⟩⟩; refine ⟨_, rfl, ?_⟩))
           go_roundg k1
           case measure => have := HK1.out; omega
           case rel => exact ⟨(x5_1), (x6_1), (x7_1), (wrap64 (x8_1 + 1)), (by first | rfl | (simp; done) | (simp [*]; done)), (by first | rfl | (simp; done) | (simp [*]; done)), H', ⟨by have := HK1.out; omega⟩, ⟨by (with_reducible repeat (first | apply Kd.R_alloc | apply Kd.R_drewN | apply Kd.R_drew)); exact Kd.R_mono HO_5.out (fun _ hk => hk.1.1)⟩, ⟨by (with_reducible repeat (first | apply Kd.R_alloc | apply Kd.R_drewN | apply Kd.R_drew)); exact Kd.R_mono HO_6.out (fun _ hk => hk.1.1)⟩, ⟨by (with_reducible repeat (first | refine blk_drewN ?_ _ | refine blk_drew ?_ | refine blk_alloc ?_ _)); exact BK118.out⟩, ⟨by repeat (first | (with_reducible first | exact HB.out | apply below_alloc | apply pw_below_drewN | apply below_drew1 | refine below_set ?_ GE118.out) | exact HB.out)⟩⟩
         · replace c15 := Bool.eq_false_iff.mpr c15
           subst c15
           have H1 : (canon_plane_best.l0 k1 x5_1 x6_1 (wrap64 (x7_1 + 1)) (wrap64 (x8_1 + 1)) a0_0 l0_1 l0_2) = some (r1, r2, r3) := by rw [if_neg (show ¬ (false = true) by decide)] at H; exact H
           clear H
           have H := H1
           clear H1
           have H' := Aside0.mk H
           clear H
           have hcz20_0 : wr.cell? ⟨gb118, 0, none⟩ = some (.int .i64 a0_0) := (blk_cell BK118.out 0).trans rfl
           have hcz20_1 : wr.cell? ⟨gb118, 1, none⟩ = some (.slice A0_1 l0_1.length c0_1) := (blk_cell BK118.out 1).trans rfl
           have hcz20_2 : wr.cell? ⟨gb118, 2, none⟩ = some (.slice A0_2 l0_2.length c0_2) := (blk_cell BK118.out 2).trans rfl
           have hfz20_0 := blk_frozen BK118.out 0
           have hfz20_1 := blk_frozen BK118.out 1
           have hfz20_2 := blk_frozen BK118.out 2
           go_wp2_with (first | ((with_reducible refine gate_callee (f := 37) rfl ?_); refine goesL_ (some 26) rfl rfl Try.func37 (by kernel_rfl) rfl #[.agg #[.int .i64 a0_0, .slice A0_1 l0_1.length c0_1, .slice A0_2 l0_2.length c0_2], .int .i64 x8_1] rfl (by (try simp only [List.map_toArray, List.map_cons, List.map_nil]); first | done | rfl | (simp only [List.length_drop, List.length_take]; rfl)) ?_; (with_reducible refine (canon_plane_code.calls k1 a0_0 _ _ l0_1 _ _ l0_2 x8_1 t125 t128 _ ?side1 ?side2 ?side3 ?side4 A7.out).mono ?_); (case side1 => repeat (first | exact (Kd.C_below HR0_1.out HB.out) | (with_reducible refine Kd.C_alloc ?_ _) | (with_reducible refine Kd.C_drewN ?_ _) | (with_reducible refine Kd.C_drew ?_))); (case side2 => exact HC0_1.out); (case side3 => repeat (first | exact (Kd.C_below HR0_2.out HB.out) | (with_reducible refine Kd.C_alloc ?_ _) | (with_reducible refine Kd.C_drewN ?_ _) | (with_reducible refine Kd.C_drew ?_))); (case side4 => exact HC0_2.out); rintro e w21 ⟨v126, v129, rfl, ho0, ho1, hb⟩; refine ⟨_, rfl, ?_⟩; have n0_ := Aside0.mk (Kd.R_mono (Kd.R_told (Kd.R_told (Kd.R_old (by (with_reducible repeat (first | apply Kd.R_alloc | apply Kd.R_drewN | apply Kd.R_drew)); exact HO_5.out) hb) (Kd.R_base ho0)) (Kd.R_base ho1)) (fun _ h_ => h_.1)); have n1_ := Aside0.mk (Kd.R_mono (Kd.R_told (Kd.R_told (Kd.R_old (by (with_reducible repeat (first | apply Kd.R_alloc | apply Kd.R_drewN | apply Kd.R_drew)); exact HO_6.out) hb) (Kd.R_base ho0)) (Kd.R_base ho1)) (fun _ h_ => h_.1)); have n2_ := Aside0.mk (Kd.R_lower (Kd.R_new' (Kd.R_new' ho0 (Kd.R_lt (by (with_reducible repeat (first | apply Kd.R_alloc | apply Kd.R_drewN | apply Kd.R_drew)); exact HO_5.out))) (Kd.R_lt (by (with_reducible repeat (first | apply Kd.R_alloc | apply Kd.R_drewN | apply Kd.R_drew)); exact HO_6.out))) (below_size (by repeat (first | (with_reducible first | exact HB.out | apply below_alloc | apply pw_below_drewN | apply below_drew1 | refine below_set ?_ GE118.out) | exact HB.out)))); have n3_ := Aside0.mk (Kd.R_lower (Kd.R_new' (Kd.R_new' ho1 (Kd.R_lt (by (with_reducible repeat (first | apply Kd.R_alloc | apply Kd.R_drewN | apply Kd.R_drew)); exact HO_5.out))) (Kd.R_lt (by (with_reducible repeat (first | apply Kd.R_alloc | apply Kd.R_drewN | apply Kd.R_drew)); exact HO_6.out))) (below_size (by repeat (first | (with_reducible first | exact HB.out | apply below_alloc | apply pw_below_drewN | apply below_drew1 | refine below_set ?_ GE118.out) | exact HB.out)))); have n4_ := Aside0.mk (blk_below (g := gb118) (o := .cells #[.int .i64 a0_0, .slice A0_1 l0_1.length c0_1, .slice A0_2 l0_2.length c0_2] 69 (0, 0)) (by (with_reducible repeat (first | refine blk_drewN ?_ _ | refine blk_drew ?_ | refine blk_alloc ?_ _)); exact BK118.out) hb); have n5_ := Aside0.mk (below_step (by repeat (first | (with_reducible first | exact HB.out | apply below_alloc | apply pw_below_drewN | apply below_drew1 | refine below_set ?_ GE118.out) | exact HB.out)) hb); clear HO_5; clear HO_6; clear BK118; clear HB; have HO_5 := n0_; have HO_6 := n1_; have HO127 := n2_; have HO130 := n3_; have BK118 := n4_; have HB := n5_; clear n0_ n1_ n2_ n3_ n4_ n5_; (try clear hb); (try clear hb2); (try clear hk); (try clear hi); (try clear ho0); (try clear ho1); obtain ⟨Ao22, co22, eo22⟩ := Kd.R_slice HO127.out; subst eo22; obtain ⟨Ao23, co23, eo23⟩ := Kd.R_slice HO_5.out; subst eo23) | ((with_reducible refine gate_callee (f := 42) rfl ?_); refine goesL_ (some 32) rfl rfl Try.func42 (by kernel_rfl) rfl #[.slice Ao22 t125.length co22, .slice Ao23 x5_1.length co23] rfl (by (try simp only [List.map_toArray, List.map_cons, List.map_nil]); first | done | rfl | (simp only [List.length_drop, List.length_take]; rfl)) ?_; (with_reducible refine (canon_less_int.calls k1 _ _ t125 _ _ x5_1 false _ ?side1 ?side2 ?side3 ?side4 A8.out).mono ?_); (case side1 => repeat (first | exact (Kd.R_reads' HO127.out).2.2 | (with_reducible refine Kd.C_alloc ?_ _) | (with_reducible refine Kd.C_drewN ?_ _) | (with_reducible refine Kd.C_drew ?_))); (case side2 => exact (Kd.R_reads' HO127.out).2.1); (case side3 => repeat (first | exact (Kd.R_reads' HO_5.out).2.2 | (with_reducible refine Kd.C_alloc ?_ _) | (with_reducible refine Kd.C_drewN ?_ _) | (with_reducible refine Kd.C_drew ?_))); (case side4 => exact (Kd.R_reads' HO_5.out).2.1); rintro e w' ⟨rfl, ⟨nd, rfl⟩⟩; refine ⟨_, rfl, ?_⟩) | ((with_reducible refine gate_callee (f := 42) rfl ?_); refine goesL_ (some 38) rfl rfl Try.func42 (by kernel_rfl) rfl #[.slice Ao23 x5_1.length co23, .slice Ao22 t125.length co22] rfl (by (try simp only [List.map_toArray, List.map_cons, List.map_nil]); first | done | rfl | (simp only [List.length_drop, List.length_take]; rfl)) ?_; (with_reducible refine (canon_less_int.calls k1 _ _ x5_1 _ _ t125 false _ ?side1 ?side2 ?side3 ?side4 A14.out).mono ?_); (case side1 => repeat (first | exact (Kd.R_reads' HO_5.out).2.2 | (with_reducible refine Kd.C_alloc ?_ _) | (with_reducible refine Kd.C_drewN ?_ _) | (with_reducible refine Kd.C_drew ?_))); (case side2 => exact (Kd.R_reads' HO_5.out).2.1); (case side3 => repeat (first | exact (Kd.R_reads' HO127.out).2.2 | (with_reducible refine Kd.C_alloc ?_ _) | (with_reducible refine Kd.C_drewN ?_ _) | (with_reducible refine Kd.C_drew ?_))); (case side4 => exact (Kd.R_reads' HO127.out).2.1); rintro e w' ⟨rfl, ⟨nd, rfl⟩⟩; refine ⟨_, rfl, ?_⟩))
           go_roundg k1
           case measure => have := HK1.out; omega
           case rel => exact ⟨(x5_1), (x6_1), (wrap64 (x7_1 + 1)), (wrap64 (x8_1 + 1)), (by first | rfl | (simp; done) | (simp [*]; done)), (by first | rfl | (simp; done) | (simp [*]; done)), H', ⟨by have := HK1.out; omega⟩, ⟨by (with_reducible repeat (first | apply Kd.R_alloc | apply Kd.R_drewN | apply Kd.R_drew)); exact Kd.R_mono HO_5.out (fun _ hk => hk.1.1)⟩, ⟨by (with_reducible repeat (first | apply Kd.R_alloc | apply Kd.R_drewN | apply Kd.R_drew)); exact Kd.R_mono HO_6.out (fun _ hk => hk.1.1)⟩, ⟨by (with_reducible repeat (first | refine blk_drewN ?_ _ | refine blk_drew ?_ | refine blk_alloc ?_ _)); exact BK118.out⟩, ⟨by repeat (first | (with_reducible first | exact HB.out | apply below_alloc | apply pw_below_drewN | apply below_drew1 | refine below_set ?_ GE118.out) | exact HB.out)⟩⟩
     · rw [if_neg c6] at H
       have c6b0 : decide (x8_1 < (l0_1.length : Int)) = false := decide_eq_false c6
       clear c6
       simp only [Option.some.injEq, Prod.mk.injEq] at H
       obtain ⟨rfl, rfl, rfl⟩ := H
       have hcz24_0 : wr.cell? ⟨gb118, 0, none⟩ = some (.int .i64 a0_0) := (blk_cell BK118.out 0).trans rfl
       have hcz24_1 : wr.cell? ⟨gb118, 1, none⟩ = some (.slice A0_1 l0_1.length c0_1) := (blk_cell BK118.out 1).trans rfl
       have hcz24_2 : wr.cell? ⟨gb118, 2, none⟩ = some (.slice A0_2 l0_2.length c0_2) := (blk_cell BK118.out 2).trans rfl
       have hfz24_0 := blk_frozen BK118.out 0
       have hfz24_1 := blk_frozen BK118.out 1
       have hfz24_2 := blk_frozen BK118.out 2
       go_wp2
       go_ret3
       exact ⟨_, _, by first | rfl | (simp [errW_none, errW_some] <;> rfl) | (simp [*, errW_none, errW_some] <;> rfl), by (with_reducible repeat (first | apply Kd.R_alloc | apply Kd.R_drewN | apply Kd.R_drew)); exact HO_5.out, by (with_reducible repeat (first | apply Kd.R_alloc | apply Kd.R_drewN | apply Kd.R_drew)); exact HO_6.out, by repeat (first | (with_reducible first | exact HB.out | apply below_alloc | apply pw_below_drewN | apply below_drew1 | refine below_set ?_ GE118.out) | exact HB.out)⟩
end Go.Proofs.Yteeihjpnhjnknaa.GAll
namespace Go.Proofs.Yteeihjpnhjnknaa.GAll
open Go.RowKit Go.Proofs.YteeihjpnhjnknaaW.PrintWords Go.Proofs.YteeihjpnhjnknaaW.PrintLast Go.Proofs.YteeihjpnhjnknaaW.PrintMore
attribute [local go_sem] max2_int min2_int max_two min_two max_three min_three max_four min_four   -- for this text's walks alone
set_option linter.unusedVariables false
set_option linter.unusedSimpArgs false
def canon_Code.f (k : Nat) (a0_0 : Int) (l0_1 : List S89) (l1 : List (List Int)) : Option (List Int × Int) := (canon_one.f k a0_0 l0_1 l1).bind fun t => if t.2.2.2 = 0 then (canon_plane_best.f k t.1 t.2.1 t.2.2.1).bind fun u => some (u.1, 0) else some ([], t.2.2.2)
theorem canon_Code.mono : ∀ a0 a1 a2 k, LeO (canon_Code.f k a0 a1 a2) (canon_Code.f (k + 1) a0 a1 a2) := fun _ _ _ _ =>
 LeO.bind (canon_one.mono _ _ _ _) (fun _ => LeO.ite (LeO.bind (canon_plane_best.mono _ _ _ _) (fun _ => LeO.refl _)) (LeO.refl _))
theorem canon_Code.calls (k : Nat) (a0_0 : Int) (A0_1 : Option Addr) (c0_1 : Nat) (l0_1 : List (S89)) (A1 : Option Addr) (c1 : Nat) (l1 : List (List Int)) (r1 : List Int) (r2 : Int) (w : World) (hr0_1 : Kd.C k89 w A0_1 l0_1.length l0_1) (hc0_1 : l0_1.length ≤ c0_1) (hr1 : Kd.C (Kd.slice 3 (Kd.int .i64)) w A1 l1.length l1) (hc1 : l1.length ≤ c1) (h : canon_Code.f k a0_0 l0_1 l1 = some (r1, r2)) :
   Calls Try.prog 16 #[.agg #[.int .i64 a0_0, .slice A0_1 l0_1.length c0_1], .slice A1 l1.length c1] w fun e w' => ∃ v0_ : Value, e = .returned (.tuple #[v0_, .int .i64 r2]) ∧ Kd.R (Kd.int .i64) 3 w' w.heap.size (fun _ => True) v0_ r1 ∧ Below w.heap.size w w' := by
 obtain ⟨⟨n, nx, tl, e⟩, ht, h⟩ := Option.bind_eq_some_iff.mp h
 simp only at h
 refine One.code_calls a0_0 A0_1 l0_1.length c0_1 _ n nx tl e w (fun W hW => canon_one.calls k a0_0 A0_1 c0_1 l0_1 A1 c1 l1 n nx tl e W (Kd.C_below hr0_1 hW) hc0_1 (Kd.C_below hr1 hW) hc1 ht) (r1, r2) (fun he => ?_) (fun he => ?_)
 · rw [if_neg he] at h
   exact (Option.some.inj h).symm
 · rw [if_pos he] at h
   obtain ⟨⟨cd, od, j⟩, hu, h⟩ := Option.bind_eq_some_iff.mp h
   obtain ⟨rfl, rfl⟩ : cd = r1 ∧ 0 = r2 := by simpa using h
   exact ⟨rfl, j, fun W B1 d1 B2 d2 g1 g2 g3 g4 => (canon_plane_best.calls k n B1 d1 nx B2 d2 tl cd od j W g1 g2 g3 g4 hu).mono fun _ _ ⟨v0, v1, q1, q2, _, q4⟩ => ⟨v0, v1, q1, Kd.R_mono q2 (fun _ _ => trivial), q4⟩⟩
def canon_Turns.f (k : Nat) (a0_0 : Int) (l0_1 : List S89) (l1 : List (List Int)) : Option (Int × Int) := (canon_one.f k a0_0 l0_1 l1).bind fun t => if t.2.2.2 = 0 then (canon_plane_best.f k t.1 t.2.1 t.2.2.1).bind fun u => some (u.2.2, 0) else some (0, t.2.2.2)
theorem canon_Turns.mono : ∀ a0 a1 a2 k, LeO (canon_Turns.f k a0 a1 a2) (canon_Turns.f (k + 1) a0 a1 a2) := fun _ _ _ _ =>
 LeO.bind (canon_one.mono _ _ _ _) (fun _ => LeO.ite (LeO.bind (canon_plane_best.mono _ _ _ _) (fun _ => LeO.refl _)) (LeO.refl _))
theorem canon_Turns.calls (k : Nat) (a0_0 : Int) (A0_1 : Option Addr) (c0_1 : Nat) (l0_1 : List (S89)) (A1 : Option Addr) (c1 : Nat) (l1 : List (List Int)) (r1 : Int) (r2 : Int) (w : World) (hr0_1 : Kd.C k89 w A0_1 l0_1.length l0_1) (hc0_1 : l0_1.length ≤ c0_1) (hr1 : Kd.C (Kd.slice 3 (Kd.int .i64)) w A1 l1.length l1) (hc1 : l1.length ≤ c1) (h : canon_Turns.f k a0_0 l0_1 l1 = some (r1, r2)) :
   Calls Try.prog 18 #[.agg #[.int .i64 a0_0, .slice A0_1 l0_1.length c0_1], .slice A1 l1.length c1] w fun e w' => e = .returned (.tuple #[.int .i64 r1, .int .i64 r2]) ∧ Below w.heap.size w w' := by
 obtain ⟨⟨n, nx, tl, e⟩, ht, h⟩ := Option.bind_eq_some_iff.mp h
 simp only at h
 refine One.turns_calls a0_0 A0_1 l0_1.length c0_1 _ n nx tl e w (fun W hW => canon_one.calls k a0_0 A0_1 c0_1 l0_1 A1 c1 l1 n nx tl e W (Kd.C_below hr0_1 hW) hc0_1 (Kd.C_below hr1 hW) hc1 ht) (r1, r2) (fun he => ?_) (fun he => ?_)
 · rw [if_neg he] at h
   exact (Option.some.inj h).symm
 · rw [if_pos he] at h
   obtain ⟨⟨cd, od, j⟩, hu, h⟩ := Option.bind_eq_some_iff.mp h
   obtain ⟨rfl, rfl⟩ : j = r1 ∧ 0 = r2 := by simpa using h
   exact ⟨rfl, cd, fun W B1 d1 B2 d2 g1 g2 g3 g4 => (canon_plane_best.calls k n B1 d1 nx B2 d2 tl cd od j W g1 g2 g3 g4 hu).mono fun _ _ ⟨v0, v1, q1, q2, _, q4⟩ => ⟨v0, v1, q1, Kd.R_mono q2 (fun _ _ => trivial), q4⟩⟩
end Go.Proofs.Yteeihjpnhjnknaa.GAll
namespace Go.Proofs.Yteeihjpnhjnknaa.GAll
open Go.RowKit Go.Proofs.YteeihjpnhjnknaaW.PrintWords Go.Proofs.YteeihjpnhjnknaaW.PrintLast Go.Proofs.YteeihjpnhjnknaaW.PrintMore
attribute [local go_sem] max2_int min2_int max_two min_two max_three min_three max_four min_four   -- for this text's walks alone
set_option linter.unusedVariables false
set_option linter.unusedSimpArgs false
def canon_Match.out (n1 : Int) (x y : List Int) : Option (List Int × Bool × Int) :=
 if (decide (0 ≤ n1 ∧ n1 ≤ 1048576 ∧ x.length ≤ y.length ∧ x.length ≤ 1048576) && x.all fun v => decide (0 ≤ v ∧ v < n1)) = true then some (Match.putL x y n1.toNat x.length, true, 0) else none
def canon_Match.both (k : Nat) (n1 : Int) (a b : Int × List Int × List Int × Int × Int) : Option (List Int × Bool × Int) :=
 (canon_plane_best.f k a.1 a.2.1 a.2.2.1).bind fun x => (canon_plane_best.f k b.1 b.2.1 b.2.2.1).bind fun y => (canon_less_int.f k x.1 y.1).bind fun s1 =>
   if s1 = true then some ([], false, 0) else (canon_less_int.f k y.1 x.1).bind fun s2 => if s2 = true then some ([], false, 0) else canon_Match.out n1 x.2.1 y.2.1
def canon_Match.f (k : Nat) (a0_0 : Int) (l0_1 : List S89) (l1 : List (List Int)) (a2_0 : Int) (l2_1 : List S89) (l3 : List (List Int)) : Option (List Int × Bool × Int) :=
 (canon_look.f k a0_0 l0_1 l1).bind fun a => (canon_look.f k a2_0 l2_1 l3).bind fun b =>
   if a.2.2.2.1 = 1 ∨ b.2.2.2.1 = 1 then some ([], false, 1) else if Match.firstE [a.2.2.2.1, b.2.2.2.1, a.2.2.2.2, b.2.2.2.2] = 0 then canon_Match.both k a0_0 a b else some ([], false, Match.firstE [a.2.2.2.1, b.2.2.2.1, a.2.2.2.2, b.2.2.2.2])
theorem canon_Match.mono : ∀ a0 a1 a2 a3 a4 a5 k, LeO (canon_Match.f k a0 a1 a2 a3 a4 a5) (canon_Match.f (k + 1) a0 a1 a2 a3 a4 a5) := by
 intro a0 a1 a2 a3 a4 a5 k
 unfold canon_Match.f
 refine LeO.bind (canon_look.mono _ _ _ _) (fun a => LeO.bind (canon_look.mono _ _ _ _) (fun b => LeO.ite (LeO.refl _) (LeO.ite ?_ (LeO.refl _))))
 unfold canon_Match.both
 refine LeO.bind (canon_plane_best.mono _ _ _ _) (fun x => LeO.bind (canon_plane_best.mono _ _ _ _) (fun y => LeO.bind (canon_less_int.mono _ _ _) (fun s => LeO.ite (LeO.refl _) ?_)))
 exact LeO.bind (canon_less_int.mono _ _ _) (fun s => LeO.refl _)
theorem canon_Match.looks {k : Nat} {n : Int} {A : Option Addr} {c : Nat} {l : List S89} {A1 : Option Addr} {c1 : Nat} {r : List (List Int)} {p : Int} {nx tl : List Int} {e a : Int} {w : World} (hr : Kd.C k89 w A l.length l) (hc : l.length ≤ c) (hr1 : Kd.C (Kd.slice 3 (Kd.int .i64)) w A1 r.length r) (hc1 : r.length ≤ c1) (h : canon_look.f k n l r = some (p, nx, tl, e, a)) :
   Match.LookSays #[.int .i64 n, .slice A l.length c] (.slice A1 r.length c1) p nx tl e a w := fun W hW =>
 (canon_look.calls k n A c l A1 c1 r p nx tl e a W (Kd.C_below hr hW) hc (Kd.C_below hr1 hW) hc1 h).mono fun e' w' ⟨v1, v2, h1, h2, h3, h4⟩ => by
   obtain ⟨B1, d1, e1, hd1, hC1⟩ := Kd.R_reads h2
   obtain ⟨B2, d2, e2, hd2, hC2⟩ := Kd.R_reads h3
   exact ⟨v1, v2, h1, ⟨B1, d1, B2, d2, e1, hd1, hC1, e2, hd2, hC2⟩, h4⟩
theorem canon_Match.bests {k : Nat} {n : Int} {nx tl cd od : List Int} {m : Int} (h : canon_plane_best.f k n nx tl = some (cd, od, m)) : Match.BestSays n nx tl cd od m := fun W A1 c1 A2 c2 h1 h2 h3 h4 =>
 (canon_plane_best.calls k n A1 c1 nx A2 c2 tl cd od m W h1 h2 h3 h4 h).mono fun e' w' ⟨v1, v2, h1, h2, h3, h4⟩ => by
   obtain ⟨B1, d1, e1, hd1, hC1⟩ := Kd.R_reads h2
   obtain ⟨B2, d2, e2, hd2, hC2⟩ := Kd.R_reads h3
   exact ⟨v1, v2, h1, ⟨B1, d1, B2, d2, e1, hd1, hC1, e2, hd2, hC2⟩, h4⟩
theorem canon_Match.lesses {k : Nat} {a b : List Int} {r : Bool} (h : canon_less_int.f k a b = some r) : Match.LessSays a b r := fun W A c B d h1 h2 h3 h4 =>
 (canon_less_int.calls k A c a B d b r W h1 h2 h3 h4 h).mono fun e' w' ⟨h1, h2⟩ => ⟨h1, h2.below⟩
set_option maxHeartbeats 1000000 in
theorem canon_Match.calls (k : Nat) (a0_0 : Int) (A0_1 : Option Addr) (c0_1 : Nat) (l0_1 : List (S89)) (A1 : Option Addr) (c1 : Nat) (l1 : List (List Int)) (a2_0 : Int) (A2_1 : Option Addr) (c2_1 : Nat) (l2_1 : List (S89)) (A3 : Option Addr) (c3 : Nat) (l3 : List (List Int)) (r1 : List Int) (r2 : Bool) (r3 : Int) (w : World) (hr0_1 : Kd.C k89 w A0_1 l0_1.length l0_1) (hc0_1 : l0_1.length ≤ c0_1) (hr1 : Kd.C (Kd.slice 3 (Kd.int .i64)) w A1 l1.length l1) (hc1 : l1.length ≤ c1) (hr2_1 : Kd.C k89 w A2_1 l2_1.length l2_1) (hc2_1 : l2_1.length ≤ c2_1) (hr3 : Kd.C (Kd.slice 3 (Kd.int .i64)) w A3 l3.length l3) (hc3 : l3.length ≤ c3) (h : canon_Match.f k a0_0 l0_1 l1 a2_0 l2_1 l3 = some (r1, r2, r3)) :
   Calls Try.prog 20 #[.agg #[.int .i64 a0_0, .slice A0_1 l0_1.length c0_1], .slice A1 l1.length c1, .agg #[.int .i64 a2_0, .slice A2_1 l2_1.length c2_1], .slice A3 l3.length c3] w fun e w' => ∃ v0_ : Value, e = .returned (.tuple #[v0_, .bool r2, .int .i64 r3]) ∧ Kd.R (Kd.int .i64) 3 w' w.heap.size (fun _ => True) v0_ r1 ∧ Below w.heap.size w w' := by
 obtain ⟨⟨p1, nx1, tl1, e1, a1⟩, hl1, h⟩ := Option.bind_eq_some_iff.mp h
 obtain ⟨⟨p2, nx2, tl2, e2, a2⟩, hl2, h⟩ := Option.bind_eq_some_iff.mp h
 simp only at h
 have s1 := canon_Match.looks hr0_1 hc0_1 hr1 hc1 hl1
 have s2 := canon_Match.looks hr2_1 hc2_1 hr3 hc3 hl2
 by_cases c0 : e1 = 1 ∨ e2 = 1
 · rw [if_pos c0] at h
   have hres : (([] : List Int), false, (1 : Int)) = (r1, r2, r3) := by simpa using h
   exact Match.match_calls a0_0 A0_1 l0_1.length c0_1 (.slice A1 l1.length c1) a2_0 A2_1 l2_1.length c2_1 (.slice A3 l3.length c3) p1 nx1 tl1 e1 a1 p2 nx2 tl2 e2 a2 [] [] [] [] 0 0 false false w s1 s2 (r1, r2, r3) (fun _ => hres.symm) (fun q => absurd c0 q) (fun q => absurd c0 q)
 · rw [if_neg c0] at h
   by_cases cf : Match.firstE [e1, e2, a1, a2] = 0
   · rw [if_pos cf] at h
     obtain ⟨⟨cd1, od1, k1⟩, hb1, h⟩ := Option.bind_eq_some_iff.mp h
     obtain ⟨⟨cd2, od2, k2⟩, hb2, h⟩ := Option.bind_eq_some_iff.mp h
     obtain ⟨ls1, hx1, h⟩ := Option.bind_eq_some_iff.mp h
     simp only at hx1 h hb1 hb2
     have key := fun (ls2 : Bool) (q : ls1 = false → Match.LessSays cd2 cd1 ls2) => Match.match_calls a0_0 A0_1 l0_1.length c0_1 (.slice A1 l1.length c1) a2_0 A2_1 l2_1.length c2_1 (.slice A3 l3.length c3) p1 nx1 tl1 e1 a1 p2 nx2 tl2 e2 a2 cd1 od1 cd2 od2 k1 k2 ls1 ls2 w s1 s2 (r1, r2, r3) (fun q => absurd q c0) (fun _ q => absurd cf q)
     cases ls1 with
     | true =>
       rw [if_pos rfl] at h
       have hres : (([] : List Int), false, (0 : Int)) = (r1, r2, r3) := by simpa using h
       exact key false (fun q => by cases q) (fun _ _ => ⟨canon_Match.bests hb1, canon_Match.bests hb2, canon_Match.lesses hx1, (fun q => by cases q), fun _ => hres.symm, (fun q => by cases q), (fun q => by cases q)⟩)
     | false =>
       rw [if_neg (by decide)] at h
       obtain ⟨ls2, hx2, h⟩ := Option.bind_eq_some_iff.mp h
       cases ls2 with
       | true =>
         rw [if_pos rfl] at h
         have hres : (([] : List Int), false, (0 : Int)) = (r1, r2, r3) := by simpa using h
         exact key true (fun _ => canon_Match.lesses hx2) (fun _ _ => ⟨canon_Match.bests hb1, canon_Match.bests hb2, canon_Match.lesses hx1, fun _ => canon_Match.lesses hx2, (fun q => by cases q), fun _ _ => hres.symm, (fun _ q => by cases q)⟩)
       | false =>
         rw [if_neg (by decide)] at h
         unfold canon_Match.out at h
         by_cases ho : (decide (0 ≤ a0_0 ∧ a0_0 ≤ 1048576 ∧ od1.length ≤ od2.length ∧ od1.length ≤ 1048576) && od1.all fun v => decide (0 ≤ v ∧ v < a0_0)) = true
         · rw [if_pos ho] at h
           rw [Bool.and_eq_true, decide_eq_true_eq, List.all_eq_true] at ho
           obtain ⟨⟨g1, g2, g3, g4⟩, g5⟩ := ho
           have hres : (Match.putL od1 od2 a0_0.toNat od1.length, true, (0 : Int)) = (r1, r2, r3) := by simpa using h
           refine key false (fun _ => canon_Match.lesses hx2) (fun _ _ => ⟨canon_Match.bests hb1, canon_Match.bests hb2, canon_Match.lesses hx1, fun _ => canon_Match.lesses hx2, fun q => (by cases q), fun _ q => (by cases q), fun _ _ => ⟨a0_0.toNat, by omega, by omega, g3, g4, fun i hi => ?_, hres.symm⟩⟩)
           have hm : Mem.gi od1 i ∈ od1 := by
             unfold Mem.gi
             rw [List.getD_eq_getElem?_getD, List.getElem?_eq_getElem hi]
             exact List.getElem_mem hi
           have := of_decide_eq_true (g5 _ hm)
           omega
         · rw [if_neg ho] at h; cases h
   · rw [if_neg cf] at h
     have hres : (([] : List Int), false, Match.firstE [e1, e2, a1, a2]) = (r1, r2, r3) := by simpa using h
     exact Match.match_calls a0_0 A0_1 l0_1.length c0_1 (.slice A1 l1.length c1) a2_0 A2_1 l2_1.length c2_1 (.slice A3 l3.length c3) p1 nx1 tl1 e1 a1 p2 nx2 tl2 e2 a2 [] [] [] [] 0 0 false false w s1 s2 (r1, r2, r3) (fun q => absurd q c0) (fun _ _ => hres.symm) (fun _ q => absurd q cf)
end Go.Proofs.Yteeihjpnhjnknaa.GAll
namespace Go.Proofs.Yteeihjpnhjnknaa.GAll
open Go.RowKit Go.Proofs.YteeihjpnhjnknaaW.PrintWords Go.Proofs.YteeihjpnhjnknaaW.PrintLast Go.Proofs.YteeihjpnhjnknaaW.PrintMore
attribute [local go_sem] max2_int min2_int max_two min_two max_three min_three max_four min_four   -- for this text's walks alone
set_option linter.unusedVariables false
set_option linter.unusedSimpArgs false
def tangramlaw21_path.f  : Option (Int × (List (S89)) × (List (List Int))) := some (3, (([(⟨0, 1⟩ : S89), (⟨1, 2⟩ : S89)] : List (S89))), (([(([0] : List Int)), (([1, 2] : List Int)), (([3] : List Int))] : List (List Int))))
set_option maxHeartbeats 8000000 in
set_option maxRecDepth 100000 in
theorem tangramlaw21_path.calls  (r1 : Int) (r2 : List (S89)) (r3 : List (List Int)) (w : World) (h : tangramlaw21_path.f  = some (r1, r2, r3)) :
   Calls Try.prog 34 #[] w fun e w' => ∃ v1_ v2_ : Value, e = .returned (.tuple #[.agg #[.int .i64 r1, v1_], v2_]) ∧ Kd.R k89 89 w' w.heap.size (fun k_ => (w.heap.size ≤ k_)) v1_ r2 ∧ Kd.N (Kd.slice 3 (Kd.int .i64)) 32 w' w.heap.size (fun k_ => (w.heap.size ≤ k_) ∧ some k_ ≠ (v1_ : Value).ownBlock) v2_ r3 ∧ Below w.heap.size w w' := by
 have hu24 := Try.underlying24
 have hu89 := Try.underlying89
 have HB := Aside0.mk (Below.refl w.heap.size w)
 have H : (some (3, (([(⟨0, 1⟩ : S89), (⟨1, 2⟩ : S89)] : List (S89))), (([(([0] : List Int)), (([1, 2] : List Int)), (([3] : List Int))] : List (List Int))))) = some (r1, r2, r3) := h
 clear h
 obtain ⟨y134, hy134⟩ : ∃ y_ : List (S89), y_ = (([(⟨0, 1⟩ : S89), (⟨1, 2⟩ : S89)] : List (S89))) := ⟨_, rfl⟩
 replace H : (some (3, y134, (([(([0] : List Int)), (([1, 2] : List Int)), (([3] : List Int))] : List (List Int))))) = some (r1, r2, r3) := by first | (rw [hy134]; with_reducible exact H) | (have H2_ := (Option.bind_some _ _).symm.trans H; rw [hy134]; with_reducible exact H2_) | (have H2_ := (Option.bind_some _ _).symm.trans H; with_reducible exact H2_) | with_reducible exact H | (rw [hy134]; exact H) | exact H
 have Ny134 := Aside0.mk hy134
 clear hy134
 obtain ⟨y137, hy137⟩ : ∃ y_ : List Int, y_ = (([0] : List Int)) := ⟨_, rfl⟩
 replace H : (some (3, y134, (([y137, (([1, 2] : List Int)), (([3] : List Int))] : List (List Int))))) = some (r1, r2, r3) := by first | (rw [hy137]; with_reducible exact H) | (have H2_ := (Option.bind_some _ _).symm.trans H; rw [hy137]; with_reducible exact H2_) | (have H2_ := (Option.bind_some _ _).symm.trans H; with_reducible exact H2_) | with_reducible exact H | (rw [hy137]; exact H) | exact H
 have Ny137 := Aside0.mk hy137
 clear hy137
 obtain ⟨y140, hy140⟩ : ∃ y_ : List Int, y_ = (([1, 2] : List Int)) := ⟨_, rfl⟩
 replace H : (some (3, y134, (([y137, y140, (([3] : List Int))] : List (List Int))))) = some (r1, r2, r3) := by first | (rw [hy140]; with_reducible exact H) | (have H2_ := (Option.bind_some _ _).symm.trans H; rw [hy140]; with_reducible exact H2_) | (have H2_ := (Option.bind_some _ _).symm.trans H; with_reducible exact H2_) | with_reducible exact H | (rw [hy140]; exact H) | exact H
 have Ny140 := Aside0.mk hy140
 clear hy140
 obtain ⟨y143, hy143⟩ : ∃ y_ : List Int, y_ = (([3] : List Int)) := ⟨_, rfl⟩
 replace H : (some (3, y134, (([y137, y140, y143] : List (List Int))))) = some (r1, r2, r3) := by first | (rw [hy143]; with_reducible exact H) | (have H2_ := (Option.bind_some _ _).symm.trans H; rw [hy143]; with_reducible exact H2_) | (have H2_ := (Option.bind_some _ _).symm.trans H; with_reducible exact H2_) | with_reducible exact H | (rw [hy143]; exact H) | exact H
 have Ny143 := Aside0.mk hy143
 clear hy143
 obtain ⟨y146, hy146⟩ : ∃ y_ : List (List Int), y_ = (([y137, y140, y143] : List (List Int))) := ⟨_, rfl⟩
 replace H : (some (3, y134, y146)) = some (r1, r2, r3) := by first | (rw [hy146]; with_reducible exact H) | (have H2_ := (Option.bind_some _ _).symm.trans H; rw [hy146]; with_reducible exact H2_) | (have H2_ := (Option.bind_some _ _).symm.trans H; with_reducible exact H2_) | with_reducible exact H | (rw [hy146]; exact H) | exact H
 have Ny146 := Aside0.mk hy146
 clear hy146
 simp only [Option.some.injEq, Prod.mk.injEq] at H
 obtain ⟨rfl, rfl, rfl⟩ := H
 go_enter Try.func34, Try.ntmps34
 go_wp2_with (first | ((with_reducible refine gate_dst (N := 0) rfl ?_); refine box_event ?hg (N := 0) ?hd (cs := #[.int .i64 0, .slice none 0 0]) (t := 24) ?hr ?_; (case hd => rfl); (case hg => rfl); (case hr => first | (go_simp; done) | (go_simp; rfl)); intro gb133 hg w1 hbox hb; have n0_ := Aside0.mk (below_step (by repeat (first | (with_reducible first | exact HB.out | apply below_alloc | apply pw_below_drewN | apply below_drew1) | exact HB.out)) hb); have n1_ := Aside0.mk (hbox); have n2_ := Aside0.mk ((by rw [hg]; exact (below_size (by repeat (first | (with_reducible first | exact HB.out | apply below_alloc | apply pw_below_drewN | apply below_drew1) | exact HB.out))) : w.heap.size ≤ gb133)); have n3_ := Aside0.mk ((by rw [hg]; exact (below_size (by repeat (first | (with_reducible first | exact HB.out | apply below_alloc | apply pw_below_drewN | apply below_drew1) | exact HB.out))) : w.heap.size ≤ gb133)); clear HB; have HB := n0_; have BK133 := n1_; have GW133 := n2_; have GE133 := n3_; clear n0_ n1_ n2_ n3_; clear hb hbox hg) | ((with_reducible refine gate_dst (N := 4) rfl ?_); refine Kd.R_lit k89 _ 89 ?hg (N := 4) ?hd (xs := ([(⟨0, 1⟩ : S89), (⟨1, 2⟩ : S89)] : List (S89))) (inner := [.int .i64 0, .int .i64 1, .int .i64 1, .int .i64 2]) (ok := fun _ => True) (okp := fun _ => True) ?hr ?hp (fun _ hk => hk) trivial (Below.refl _ _) (Nat.le_refl _) (by simp) ?_; (case hd => rfl); (case hg => rfl); (case hr => first | (go_simp; done) | (go_simp; rfl)); (case hp => exact (Reps.c2 (show Kd.M k89 _ _ _ (⟨0, 1⟩ : S89) [.int .i64 0, .int .i64 1] from (k89_mkM _ _ _ (⟨0, 1⟩ : S89) )) (Reps.c2 (show Kd.M k89 _ _ _ (⟨1, 2⟩ : S89) [.int .i64 1, .int .i64 2] from (k89_mkM _ _ _ (⟨1, 2⟩ : S89) )) (Reps.none _ _)))); intro v135 w2 ho3 hb hg_ hnew_; clear hg_ hnew_; (first | rw [← Ny134.out] at ho3 | (simp only [Int.reduceToNat] at ho3; rw [← Ny134.out] at ho3)); have n0_ := Aside0.mk (Kd.R_lower (Kd.R_newM (M := fun k_ => (w.heap.size ≤ k_)) ho3 (below_size (by repeat (first | (with_reducible first | exact HB.out | apply below_alloc | apply pw_below_drewN | apply below_drew1 | refine below_set ?_ GE133.out) | exact HB.out))) (fun k_ h_ => h_)) (below_size (by repeat (first | (with_reducible first | exact HB.out | apply below_alloc | apply pw_below_drewN | apply below_drew1 | refine below_set ?_ GE133.out) | exact HB.out)))); have n1_ := Aside0.mk (blk_below (g := gb133) (o := .cells #[.int .i64 0, .slice none 0 0] 24 (0, 0)) (by (with_reducible repeat (first | refine blk_drewN ?_ _ | refine blk_drew ?_ | refine blk_alloc ?_ _)); exact BK133.out) hb); have n2_ := Aside0.mk (below_step (by repeat (first | (with_reducible first | exact HB.out | apply below_alloc | apply pw_below_drewN | apply below_drew1 | refine below_set ?_ GE133.out) | exact HB.out)) hb); clear BK133; clear HB; have HO136 := n0_; have BK133 := n1_; have HB := n2_; clear n0_ n1_ n2_; clear hb ho3; obtain ⟨Ao4, co4, eo4⟩ := Kd.R_slice HO136.out; subst eo4) | ((with_reducible refine gate_dst (N := 6) rfl ?_); refine Kd.R_lit (Kd.int .i64) _ 3 ?hg (N := 6) ?hd (xs := ([0] : List Int)) (inner := [.int .i64 0]) (ok := fun _ => True) (okp := fun _ => True) ?hr ?hp (fun _ hk => hk) trivial (Below.refl _ _) (Nat.le_refl _) (by simp) ?_; (case hd => rfl); (case hg => rfl); (case hr => first | (go_simp; done) | (go_simp; rfl)); (case hp => exact (Reps.one (show Kd.M (Kd.int .i64) _ _ _ 0 [.int .i64 0] from rfl) (Reps.none _ _))); intro v138 w5 ho6 hb hg_ hnew_; clear hg_ hnew_; (first | rw [← Ny137.out] at ho6 | (simp only [Int.reduceToNat] at ho6; rw [← Ny137.out] at ho6)); have n0_ := Aside0.mk (Kd.R_below (by (with_reducible repeat (first | apply Kd.R_alloc | apply Kd.R_drewN | apply Kd.R_drew)); exact HO136.out) hb); have n1_ := Aside0.mk (Kd.R_lower (Kd.R_newM (M := fun k_ => (w.heap.size ≤ k_)) ho6 (below_size (by repeat (first | (with_reducible first | exact HB.out | apply below_alloc | apply pw_below_drewN | apply below_drew1 | refine below_set ?_ GE133.out) | exact HB.out))) (fun k_ h_ => h_)) (below_size (by repeat (first | (with_reducible first | exact HB.out | apply below_alloc | apply pw_below_drewN | apply below_drew1 | refine below_set ?_ GE133.out) | exact HB.out)))); have n2_ := Aside0.mk (blk_below (g := gb133) (o := .cells #[.int .i64 0, .slice none 0 0] 24 (0, 0)) (by (with_reducible repeat (first | refine blk_drewN ?_ _ | refine blk_drew ?_ | refine blk_alloc ?_ _)); exact BK133.out) hb); have n3_ := Aside0.mk (below_step (by repeat (first | (with_reducible first | exact HB.out | apply below_alloc | apply pw_below_drewN | apply below_drew1 | refine below_set ?_ GE133.out) | exact HB.out)) hb); clear HO136; clear BK133; clear HB; have HO136 := n0_; have HO139 := n1_; have BK133 := n2_; have HB := n3_; clear n0_ n1_ n2_ n3_; clear hb ho6) | ((with_reducible refine gate_dst (N := 7) rfl ?_); refine Kd.R_lit (Kd.int .i64) _ 3 ?hg (N := 7) ?hd (xs := ([1, 2] : List Int)) (inner := [.int .i64 1, .int .i64 2]) (ok := fun _ => True) (okp := fun _ => True) ?hr ?hp (fun _ hk => hk) trivial (Below.refl _ _) (Nat.le_refl _) (by simp) ?_; (case hd => rfl); (case hg => rfl); (case hr => first | (go_simp; done) | (go_simp; rfl)); (case hp => exact (Reps.one (show Kd.M (Kd.int .i64) _ _ _ 1 [.int .i64 1] from rfl) (Reps.one (show Kd.M (Kd.int .i64) _ _ _ 2 [.int .i64 2] from rfl) (Reps.none _ _)))); intro v141 w7 ho8 hb hg_ hnew_; clear hg_ hnew_; (first | rw [← Ny140.out] at ho8 | (simp only [Int.reduceToNat] at ho8; rw [← Ny140.out] at ho8)); have n0_ := Aside0.mk (Kd.R_below (by (with_reducible repeat (first | apply Kd.R_alloc | apply Kd.R_drewN | apply Kd.R_drew)); exact HO136.out) hb); have n1_ := Aside0.mk (Kd.R_elder' (by (with_reducible repeat (first | apply Kd.R_alloc | apply Kd.R_drewN | apply Kd.R_drew)); exact HO139.out) (Kd.R_base ho8) hb); have n2_ := Aside0.mk (Kd.R_lower (Kd.R_new' (Kd.R_newM (M := fun k_ => (w.heap.size ≤ k_)) ho8 (below_size (by repeat (first | (with_reducible first | exact HB.out | apply below_alloc | apply pw_below_drewN | apply below_drew1 | refine below_set ?_ GE133.out) | exact HB.out))) (fun k_ h_ => h_)) (Kd.R_lt (by (with_reducible repeat (first | apply Kd.R_alloc | apply Kd.R_drewN | apply Kd.R_drew)); exact HO139.out))) (below_size (by repeat (first | (with_reducible first | exact HB.out | apply below_alloc | apply pw_below_drewN | apply below_drew1 | refine below_set ?_ GE133.out) | exact HB.out)))); have n3_ := Aside0.mk (blk_below (g := gb133) (o := .cells #[.int .i64 0, .slice none 0 0] 24 (0, 0)) (by (with_reducible repeat (first | refine blk_drewN ?_ _ | refine blk_drew ?_ | refine blk_alloc ?_ _)); exact BK133.out) hb); have n4_ := Aside0.mk (below_step (by repeat (first | (with_reducible first | exact HB.out | apply below_alloc | apply pw_below_drewN | apply below_drew1 | refine below_set ?_ GE133.out) | exact HB.out)) hb); clear HO136; clear HO139; clear BK133; clear HB; have HO136 := n0_; have HO139 := n1_; have HO142 := n2_; have BK133 := n3_; have HB := n4_; clear n0_ n1_ n2_ n3_ n4_; clear hb ho8) | ((with_reducible refine gate_dst (N := 8) rfl ?_); refine Kd.R_lit (Kd.int .i64) _ 3 ?hg (N := 8) ?hd (xs := ([3] : List Int)) (inner := [.int .i64 3]) (ok := fun _ => True) (okp := fun _ => True) ?hr ?hp (fun _ hk => hk) trivial (Below.refl _ _) (Nat.le_refl _) (by simp) ?_; (case hd => rfl); (case hg => rfl); (case hr => first | (go_simp; done) | (go_simp; rfl)); (case hp => exact (Reps.one (show Kd.M (Kd.int .i64) _ _ _ 3 [.int .i64 3] from rfl) (Reps.none _ _))); intro v144 w9 ho10 hb hg_ hnew_; clear hg_ hnew_; (first | rw [← Ny143.out] at ho10 | (simp only [Int.reduceToNat] at ho10; rw [← Ny143.out] at ho10)); have n0_ := Aside0.mk (Kd.R_below (by (with_reducible repeat (first | apply Kd.R_alloc | apply Kd.R_drewN | apply Kd.R_drew)); exact HO136.out) hb); have n1_ := Aside0.mk (Kd.R_elder' (by (with_reducible repeat (first | apply Kd.R_alloc | apply Kd.R_drewN | apply Kd.R_drew)); exact HO139.out) (Kd.R_base ho10) hb); have n2_ := Aside0.mk (Kd.R_elder' (by (with_reducible repeat (first | apply Kd.R_alloc | apply Kd.R_drewN | apply Kd.R_drew)); exact HO142.out) (Kd.R_base ho10) hb); have n3_ := Aside0.mk (Kd.R_lower (Kd.R_new' (Kd.R_new' (Kd.R_newM (M := fun k_ => (w.heap.size ≤ k_)) ho10 (below_size (by repeat (first | (with_reducible first | exact HB.out | apply below_alloc | apply pw_below_drewN | apply below_drew1 | refine below_set ?_ GE133.out) | exact HB.out))) (fun k_ h_ => h_)) (Kd.R_lt (by (with_reducible repeat (first | apply Kd.R_alloc | apply Kd.R_drewN | apply Kd.R_drew)); exact HO139.out))) (Kd.R_lt (by (with_reducible repeat (first | apply Kd.R_alloc | apply Kd.R_drewN | apply Kd.R_drew)); exact HO142.out))) (below_size (by repeat (first | (with_reducible first | exact HB.out | apply below_alloc | apply pw_below_drewN | apply below_drew1 | refine below_set ?_ GE133.out) | exact HB.out)))); have n4_ := Aside0.mk (blk_below (g := gb133) (o := .cells #[.int .i64 0, .slice none 0 0] 24 (0, 0)) (by (with_reducible repeat (first | refine blk_drewN ?_ _ | refine blk_drew ?_ | refine blk_alloc ?_ _)); exact BK133.out) hb); have n5_ := Aside0.mk (below_step (by repeat (first | (with_reducible first | exact HB.out | apply below_alloc | apply pw_below_drewN | apply below_drew1 | refine below_set ?_ GE133.out) | exact HB.out)) hb); clear HO136; clear HO139; clear HO142; clear BK133; clear HB; have HO136 := n0_; have HO139 := n1_; have HO142 := n2_; have HO145 := n3_; have BK133 := n4_; have HB := n5_; clear n0_ n1_ n2_ n3_ n4_ n5_; clear hb ho10; obtain ⟨Ao11, co11, eo11⟩ := Kd.R_slice HO139.out; subst eo11; obtain ⟨Ao12, co12, eo12⟩ := Kd.R_slice HO142.out; subst eo12; obtain ⟨Ao13, co13, eo13⟩ := Kd.R_slice HO145.out; subst eo13) | ((with_reducible refine gate_dst (N := 9) rfl ?_); refine Kd.N_lit (Kd.slice 3 (Kd.int .i64)) _ 32 ?hg (N' := 9) ?hd (xs := ([y137, y140, y143] : List (List Int))) (inner := [.slice Ao11 y137.length co11, .slice Ao12 y140.length co12, .slice Ao13 y143.length co13]) (ok := (fun k_ => (w.heap.size ≤ k_) ∧ some k_ ≠ (.slice Ao4 y134.length co4 : Value).ownBlock ∧ k_ ≠ gb133)) (okp := (fun k_ => (w.heap.size ≤ k_) ∧ some k_ ≠ (.slice Ao4 y134.length co4 : Value).ownBlock ∧ k_ ≠ gb133)) ?hr ?hp (fun _ hk => hk) ((show ∀ k_, w9.heap.size ≤ k_ → (fun k_ => (w.heap.size ≤ k_) ∧ some k_ ≠ (.slice Ao4 y134.length co4 : Value).ownBlock ∧ k_ ≠ gb133) k_ from fun k_ hk => ⟨(Nat.le_trans (below_size (by repeat (first | (with_reducible first | exact HB.out | apply below_alloc | apply pw_below_drewN | apply below_drew1 | refine below_set ?_ GE133.out) | exact HB.out))) hk), Kd.fresh' (Kd.R_lt (by (with_reducible repeat (first | apply Kd.R_alloc | apply Kd.R_drewN | apply Kd.R_drew)); exact HO136.out)) k_ hk, Kd.freshB (g := gb133) (o := .cells #[.int .i64 0, .slice none 0 0] 24 (0, 0)) (by (with_reducible repeat (first | refine blk_drewN ?_ _ | refine blk_drew ?_ | refine blk_alloc ?_ _)); exact BK133.out) k_ hk⟩) _ (Nat.le_refl _)) (Below.refl _ _) (Nat.le_refl _) (by simp) ?_; (case hd => rfl); (case hg => rfl); (case hr => first | (go_simp; done) | (go_simp; rfl)); (case hp => exact (Reps.one (show Kd.FK (Kd.slice 3 (Kd.int .i64)) _ _ y137 [.slice Ao11 y137.length co11] from (Kd.FK_slice_mk (Kd.R_reads' (Kd.R_mono (ok' := (fun k_ => (w.heap.size ≤ k_) ∧ some k_ ≠ (.slice Ao4 y134.length co4 : Value).ownBlock ∧ k_ ≠ gb133)) (Kd.R_types (Kd.R_apart' (HO139.out) (Kd.R_typed HO136.out) (by decide)) BK133.out (by decide)) (fun k_ hk => ⟨hk.1.1.1.1.1, ⟨hk.1.2, hk.2⟩⟩))).2.1 (Kd.R_F (Kd.R_mono (ok' := (fun k_ => (w.heap.size ≤ k_) ∧ some k_ ≠ (.slice Ao4 y134.length co4 : Value).ownBlock ∧ k_ ≠ gb133)) (Kd.R_types (Kd.R_apart' (HO139.out) (Kd.R_typed HO136.out) (by decide)) BK133.out (by decide)) (fun k_ hk => ⟨hk.1.1.1.1.1, ⟨hk.1.2, hk.2⟩⟩))))) (Reps.one (show Kd.FK (Kd.slice 3 (Kd.int .i64)) _ _ y140 [.slice Ao12 y140.length co12] from (Kd.FK_slice_mk (Kd.R_reads' (Kd.R_mono (ok' := (fun k_ => (w.heap.size ≤ k_) ∧ some k_ ≠ (.slice Ao4 y134.length co4 : Value).ownBlock ∧ k_ ≠ gb133)) (Kd.R_types (Kd.R_apart' (HO142.out) (Kd.R_typed HO136.out) (by decide)) BK133.out (by decide)) (fun k_ hk => ⟨hk.1.1.1.1.1, ⟨hk.1.2, hk.2⟩⟩))).2.1 (Kd.R_F (Kd.R_mono (ok' := (fun k_ => (w.heap.size ≤ k_) ∧ some k_ ≠ (.slice Ao4 y134.length co4 : Value).ownBlock ∧ k_ ≠ gb133)) (Kd.R_types (Kd.R_apart' (HO142.out) (Kd.R_typed HO136.out) (by decide)) BK133.out (by decide)) (fun k_ hk => ⟨hk.1.1.1.1.1, ⟨hk.1.2, hk.2⟩⟩))))) (Reps.one (show Kd.FK (Kd.slice 3 (Kd.int .i64)) _ _ y143 [.slice Ao13 y143.length co13] from (Kd.FK_slice_mk (Kd.R_reads' (Kd.R_mono (ok' := (fun k_ => (w.heap.size ≤ k_) ∧ some k_ ≠ (.slice Ao4 y134.length co4 : Value).ownBlock ∧ k_ ≠ gb133)) (Kd.R_types (Kd.R_apart' (HO145.out) (Kd.R_typed HO136.out) (by decide)) BK133.out (by decide)) (fun k_ hk => ⟨hk.1.1.1.1.1, ⟨hk.1.2, hk.2⟩⟩))).2.1 (Kd.R_F (Kd.R_mono (ok' := (fun k_ => (w.heap.size ≤ k_) ∧ some k_ ≠ (.slice Ao4 y134.length co4 : Value).ownBlock ∧ k_ ≠ gb133)) (Kd.R_types (Kd.R_apart' (HO145.out) (Kd.R_typed HO136.out) (by decide)) BK133.out (by decide)) (fun k_ hk => ⟨hk.1.1.1.1.1, ⟨hk.1.2, hk.2⟩⟩))))) (Reps.none _ _))))); intro v147 w14 ho15 hb hg_ hnew_; clear hg_ hnew_; (first | rw [← Ny146.out] at ho15 | (simp only [Int.reduceToNat] at ho15; rw [← Ny146.out] at ho15)); have n0_ := Aside0.mk (Kd.R_below (by (with_reducible repeat (first | apply Kd.R_alloc | apply Kd.R_drewN | apply Kd.R_drew)); exact HO136.out) hb); have n1_ := Aside0.mk (Kd.N_lower ho15 (below_size (by repeat (first | (with_reducible first | exact HB.out | apply below_alloc | apply pw_below_drewN | apply below_drew1 | refine below_set ?_ GE133.out) | exact HB.out)))); have n2_ := Aside0.mk (blk_below (g := gb133) (o := .cells #[.int .i64 0, .slice none 0 0] 24 (0, 0)) (by (with_reducible repeat (first | refine blk_drewN ?_ _ | refine blk_drew ?_ | refine blk_alloc ?_ _)); exact BK133.out) hb); have n3_ := Aside0.mk (below_step (by repeat (first | (with_reducible first | exact HB.out | apply below_alloc | apply pw_below_drewN | apply below_drew1 | refine below_set ?_ GE133.out) | exact HB.out)) hb); clear HO136; clear BK133; clear HB; clear HO139; clear HO142; clear HO145; have HO136 := n0_; have HO148 := n1_; have BK133 := n2_; have HB := n3_; clear n0_ n1_ n2_ n3_; clear hb ho15; have hcz16_0 : w14.cell? ⟨gb133, 0, none⟩ = some (.int .i64 0) := (blk_cell BK133.out 0).trans rfl; have hcz16_1 : w14.cell? ⟨gb133, 1, none⟩ = some (.slice none 0 0) := (blk_cell BK133.out 1).trans rfl; have hfz16_0 := blk_frozen BK133.out 0; have hfz16_1 := blk_frozen BK133.out 1))
 refine bodyPost_ret (results_ct rfl _ _ gb133 24 #[.int .i64 3, .slice Ao4 y134.length co4] (0, 0) _ rfl (by (with_reducible repeat (first | refine blk_drewN ?_ _ | refine blk_drew ?_ | refine blk_alloc ?_ _)); refine blk_put (cs := #[.int .i64 3, .slice none 0 0]) ?_ 1 _ rfl; (with_reducible repeat (first | refine blk_drewN ?_ _ | refine blk_drew ?_ | refine blk_alloc ?_ _)); refine blk_put (cs := #[.int .i64 0, .slice none 0 0]) ?_ 0 _ rfl; (with_reducible repeat (first | refine blk_drewN ?_ _ | refine blk_drew ?_ | refine blk_alloc ?_ _)); exact BK133.out) Try.underlying24 rfl (by kernel_rfl)) rfl ?_
 exact ⟨_, _, by first | rfl | (simp [errW_none, errW_some] <;> rfl) | (simp [*, errW_none, errW_some] <;> rfl), by (with_reducible repeat (first | apply Kd.R_alloc | apply Kd.R_drewN | apply Kd.R_drew)); exact Kd.R_mono (Kd.R_far (p := ⟨gb133, 1, none⟩) (Kd.R_far (p := ⟨gb133, 0, none⟩) (Kd.R_types HO136.out BK133.out (by decide)) (fun _ hk => hk.2) (.int .i64 3)) (fun _ hk => hk.2) (.slice Ao4 y134.length co4)) (fun _ hk => hk.1.1), by (with_reducible repeat (first | apply Kd.N_alloc | apply Kd.N_drewN | apply Kd.N_drew)); exact Kd.N_mono (Kd.N_far (p := ⟨gb133, 1, none⟩) (Kd.N_far (p := ⟨gb133, 0, none⟩) (Kd.N_mono HO148.out (fun k_ hk => (⟨hk, hk.2.2⟩ : _ ∧ k_ ≠ gb133))) (fun _ hk => hk.2) (.int .i64 3)) (fun _ hk => hk.2) (.slice Ao4 y134.length co4)) (fun _ hk => ⟨hk.1.1, hk.1.2.1⟩), by repeat (first | (with_reducible first | exact HB.out | apply below_alloc | apply pw_below_drewN | apply below_drew1 | refine below_set ?_ GE133.out) | exact HB.out)⟩
end Go.Proofs.Yteeihjpnhjnknaa.GAll
namespace Go.Proofs.Yteeihjpnhjnknaa.GAll
open Go.RowKit Go.Proofs.YteeihjpnhjnknaaW.PrintWords Go.Proofs.YteeihjpnhjnknaaW.PrintLast Go.Proofs.YteeihjpnhjnknaaW.PrintMore
attribute [local go_sem] max2_int min2_int max_two min_two max_three min_three max_four min_four   -- for this text's walks alone
set_option linter.unusedVariables false
set_option linter.unusedSimpArgs false
def tangramlaw21_wakes.r : List (List Int) := [[0], [1, 2], [3]]
def tangramlaw21_wakes.es : List S89 := [⟨0, 1⟩, ⟨1, 2⟩]
set_option maxRecDepth 100000 in
theorem tangramlaw21_wakes.c0 : tangramlaw21_path.f = some (3, tangramlaw21_wakes.es, tangramlaw21_wakes.r) := by kernel_rfl
set_option maxRecDepth 100000 in
theorem tangramlaw21_wakes.c1 : canon_Code.f 40 3 tangramlaw21_wakes.es tangramlaw21_wakes.r = some ([1, 1, 2, 0, 2, 1, 1], 0) := by kernel_rfl
set_option maxRecDepth 100000 in
theorem tangramlaw21_wakes.c2 : canon_Rooted.f 40 3 tangramlaw21_wakes.es tangramlaw21_wakes.r 1 = some ([2, 1, 2, 1, 0, 1, 0], 0) := by kernel_rfl
set_option maxRecDepth 100000 in
theorem tangramlaw21_wakes.c3 : canon_Turns.f 40 3 tangramlaw21_wakes.es tangramlaw21_wakes.r = some (2, 0) := by kernel_rfl
set_option maxRecDepth 100000 in
theorem tangramlaw21_wakes.c4 : canon_Match.f 40 3 tangramlaw21_wakes.es tangramlaw21_wakes.r 3 tangramlaw21_wakes.es tangramlaw21_wakes.r = some ([0, 1, 2], true, 0) := by kernel_rfl
set_option maxRecDepth 100000 in
theorem tangramlaw21_wakes.c5 : canon_Code.f 40 1 [] [[]] = some ([], 210) := by kernel_rfl
theorem tangramlaw21_wakes.s1 : tangramref03_SameInts.f 40 [1, 1, 2, 0, 2, 1, 1] [1, 1, 2, 0, 2, 1, 1] = some true := by kernel_rfl
theorem tangramlaw21_wakes.s2 : tangramref03_SameInts.f 40 [2, 1, 2, 1, 0, 1, 0] [2, 1, 2, 1, 0, 1, 0] = some true := by kernel_rfl
theorem tangramlaw21_wakes.s3 : tangramref03_SameInts.f 40 [0, 1, 2] [0, 1, 2] = some true := by kernel_rfl
def tangramlaw21_wakes.f : Option Bool := some true
set_option maxHeartbeats 4000000 in
set_option maxRecDepth 100000 in
theorem tangramlaw21_wakes.calls (r : Bool) (w : World) (h : tangramlaw21_wakes.f = some r) :
   Calls Try.prog 11 #[] w fun e w' => e = .returned (.bool r) ∧ Below w.heap.size w w' := by
 obtain rfl : true = r := by simpa [tangramlaw21_wakes.f] using h
 clear h
 go_enter Try.func11, Try.ntmps11
 go_wp2_with fail
 refine (tangramlaw21_path.calls _ _ _ w tangramlaw21_wakes.c0).mono ?_
 rintro e w1 ⟨v1, v2, rfl, hR, hN, hb⟩
 have HB1 := Aside0.mk hb
 obtain ⟨A, c, rfl, hc, hC⟩ := Kd.R_reads hR
 obtain ⟨A1, c1, rfl, hc1, hC1⟩ := Kd.N_reads hN
 have HC1 := Aside0.mk hC
 have HL := Aside0.mk hc
 have HD1 := Aside0.mk hC1
 have HL1 := Aside0.mk hc1
 clear hb hR hN hC hC1 hc hc1
 have HX1 : Aside0 ((w1.alloc (.cells #[.int .i64 3, .slice A tangramlaw21_wakes.es.length c] 24 (0, 0))).heap[w1.heap.size]? = some (.cells #[.int .i64 3, .slice A tangramlaw21_wakes.es.length c] 24 (0, 0))) := ⟨Mem.heap_last w1 _⟩
 have hb : Below w1.heap.size w1 (w1.alloc (.cells #[.int .i64 3, .slice A tangramlaw21_wakes.es.length c] 24 (0, 0))) := (Below.refl _ _).alloc (Nat.le_refl _) _
 have HB2 := Aside0.mk (HB1.out.trans (hb.mono HB1.out.size))
 have HC2 := Aside0.mk (Kd.C_below HC1.out hb)
 have HD2 := Aside0.mk (Kd.C_below HD1.out hb)
 have x0 : (w1.alloc (.cells #[.int .i64 3, .slice A tangramlaw21_wakes.es.length c] 24 (0, 0))).cell? ⟨w1.heap.size, 0, none⟩ = some (.int .i64 3) := Mem.heap_cell HX1.out rfl
 have x1 : (w1.alloc (.cells #[.int .i64 3, .slice A tangramlaw21_wakes.es.length c] 24 (0, 0))).cell? ⟨w1.heap.size, 1, none⟩ = some (.slice A tangramlaw21_wakes.es.length c) := Mem.heap_cell HX1.out rfl
 clear hb HB1 HC1 HD1
 go_wp2_with fail
 generalize w1.alloc (.cells #[.int .i64 3, .slice A tangramlaw21_wakes.es.length c] 24 (0, 0)) = w2 at HX1 HB2 HC2 HD2 x0 x1 ⊢
 obtain ⟨b, hbb⟩ : ∃ b, b = w1.heap.size := ⟨_, rfl⟩
 rw [← hbb] at HX1 x0 x1 ⊢
 clear hbb
 refine (canon_Code.calls 40 3 A c tangramlaw21_wakes.es A1 c1 tangramlaw21_wakes.r _ _ w2 HC2.out HL.out HD2.out HL1.out tangramlaw21_wakes.c1).mono ?_
 rintro e w3 ⟨v, rfl, hR, hb⟩
 have HB3 := Aside0.mk (HB2.out.trans (hb.mono HB2.out.size))
 have HX3 := Aside0.mk ((hb.block _ (Mem.lt_of HX1.out)).trans HX1.out)
 have HC3 := Aside0.mk (Kd.C_below HC2.out hb)
 have HD3 := Aside0.mk (Kd.C_below HD2.out hb)
 clear HB2 HX1 HC2 HD2
 first | clear x0 x1 | skip
 have x0 : w3.cell? ⟨b, 0, none⟩ = some (.int .i64 3) := Mem.heap_cell HX3.out rfl
 have x1 : w3.cell? ⟨b, 1, none⟩ = some (.slice A tangramlaw21_wakes.es.length c) := Mem.heap_cell HX3.out rfl
 clear hb
 obtain ⟨A3, c3, e3, hc, hC⟩ := Kd.R_reads hR
 have HR3 := Aside0.mk hC
 have HL3 := Aside0.mk hc
 clear hR hC hc
 subst e3
 go_wp2_with fail
 refine (canon_Rooted.calls 40 3 A c tangramlaw21_wakes.es A1 c1 tangramlaw21_wakes.r 1 _ _ w3 HC3.out HL.out HD3.out HL1.out tangramlaw21_wakes.c2).mono ?_
 rintro e w4 ⟨v, rfl, hR, hb⟩
 have HB4 := Aside0.mk (HB3.out.trans (hb.mono HB3.out.size))
 have HX4 := Aside0.mk ((hb.block _ (Mem.lt_of HX3.out)).trans HX3.out)
 have HC4 := Aside0.mk (Kd.C_below HC3.out hb)
 have HD4 := Aside0.mk (Kd.C_below HD3.out hb)
 clear HB3 HX3 HC3 HD3
 first | clear x0 x1 | skip
 have x0 : w4.cell? ⟨b, 0, none⟩ = some (.int .i64 3) := Mem.heap_cell HX4.out rfl
 have x1 : w4.cell? ⟨b, 1, none⟩ = some (.slice A tangramlaw21_wakes.es.length c) := Mem.heap_cell HX4.out rfl
 have HR3a := Aside0.mk (Kd.C_below HR3.out hb)
 clear HR3
 clear hb
 obtain ⟨A4, c4, e4, hc, hC⟩ := Kd.R_reads hR
 have HR4 := Aside0.mk hC
 have HL4 := Aside0.mk hc
 clear hR hC hc
 subst e4
 go_wp2_with fail
 refine (canon_Turns.calls 40 3 A c tangramlaw21_wakes.es A1 c1 tangramlaw21_wakes.r _ _ w4 HC4.out HL.out HD4.out HL1.out tangramlaw21_wakes.c3).mono ?_
 rintro e w5 ⟨rfl, hb⟩
 have HB5 := Aside0.mk (HB4.out.trans (hb.mono HB4.out.size))
 have HX5 := Aside0.mk ((hb.block _ (Mem.lt_of HX4.out)).trans HX4.out)
 have HC5 := Aside0.mk (Kd.C_below HC4.out hb)
 have HD5 := Aside0.mk (Kd.C_below HD4.out hb)
 clear HB4 HX4 HC4 HD4
 first | clear x0 x1 | skip
 have x0 : w5.cell? ⟨b, 0, none⟩ = some (.int .i64 3) := Mem.heap_cell HX5.out rfl
 have x1 : w5.cell? ⟨b, 1, none⟩ = some (.slice A tangramlaw21_wakes.es.length c) := Mem.heap_cell HX5.out rfl
 have HR3b := Aside0.mk (Kd.C_below HR3a.out hb)
 clear HR3a
 have HR4a := Aside0.mk (Kd.C_below HR4.out hb)
 clear HR4
 clear hb
 go_wp2_with fail
 refine (canon_Match.calls 40 3 A c tangramlaw21_wakes.es A1 c1 tangramlaw21_wakes.r 3 A c tangramlaw21_wakes.es A1 c1 tangramlaw21_wakes.r _ _ _ w5 HC5.out HL.out HD5.out HL1.out HC5.out HL.out HD5.out HL1.out tangramlaw21_wakes.c4).mono ?_
 rintro e w6 ⟨v, rfl, hR, hb⟩
 have HB6 := Aside0.mk (HB5.out.trans (hb.mono HB5.out.size))
 have HX6 := Aside0.mk ((hb.block _ (Mem.lt_of HX5.out)).trans HX5.out)
 have HC6 := Aside0.mk (Kd.C_below HC5.out hb)
 have HD6 := Aside0.mk (Kd.C_below HD5.out hb)
 clear HB5 HX5 HC5 HD5
 first | clear x0 x1 | skip
 have x0 : w6.cell? ⟨b, 0, none⟩ = some (.int .i64 3) := Mem.heap_cell HX6.out rfl
 have x1 : w6.cell? ⟨b, 1, none⟩ = some (.slice A tangramlaw21_wakes.es.length c) := Mem.heap_cell HX6.out rfl
 have HR3c := Aside0.mk (Kd.C_below HR3b.out hb)
 clear HR3b
 have HR4b := Aside0.mk (Kd.C_below HR4a.out hb)
 clear HR4a
 clear hb x0 x1
 obtain ⟨A6, c6, e6, hc, hC⟩ := Kd.R_reads hR
 have HR6 := Aside0.mk hC
 have HL6 := Aside0.mk hc
 clear hR hC hc
 subst e6
 have HQ7 : Aside0 (Kd.C Mem.KR ((Mem.lits w6 [[]]).alloc (.cells (Mem.outer w6.heap.size [[]]).toArray 32 (0, 0))) (some ⟨w6.heap.size + 1, 0, none⟩) 1 [[]]) := ⟨Mem.lits_reads w6 [[]] (by decide) (by decide)⟩
 have hb := Mem.lits_all w6 [[]]
 have HB7 := Aside0.mk (HB6.out.trans (hb.mono HB6.out.size))
 have HR3d := Aside0.mk (Kd.C_below HR3c.out hb)
 clear HR3c
 have HR4c := Aside0.mk (Kd.C_below HR4b.out hb)
 clear HR4b
 have HR6a := Aside0.mk (Kd.C_below HR6.out hb)
 clear HR6
 clear hb HB6 HX6 HC6 HD6
 go_wp2_with fail
 show Calls _ _ _ ((Mem.lits w6 [[]]).alloc (.cells (Mem.outer w6.heap.size [[]]).toArray 32 (0, 0))) _
 generalize (Mem.lits w6 [[]]).alloc (.cells (Mem.outer w6.heap.size [[]]).toArray 32 (0, 0)) = w7 at HQ7 HB7 HR3d HR4c HR6a ⊢
 refine (canon_Code.calls 40 1 none 0 [] (some ⟨w6.heap.size + 1, 0, none⟩) 1 [[]] _ _ w7 (Kd.C_nil _ _) (by decide) HQ7.out (by decide) tangramlaw21_wakes.c5).mono ?_
 rintro e w8 ⟨v, rfl, hR, hb⟩
 have HB8 := Aside0.mk (HB7.out.trans (hb.mono HB7.out.size))
 have HR3e := Aside0.mk (Kd.C_below HR3d.out hb)
 clear HR3d
 have HR4d := Aside0.mk (Kd.C_below HR4c.out hb)
 clear HR4c
 have HR6b := Aside0.mk (Kd.C_below HR6a.out hb)
 clear HR6a
 clear hb hR HQ7 HB7
 have HIX : Aside0 (Mem.IRow (w8.alloc (.cells #[.int .i64 1, .int .i64 1, .int .i64 2, .int .i64 0, .int .i64 2, .int .i64 1, .int .i64 1] 3 (0, 0))) w8.heap.size [1, 1, 2, 0, 2, 1, 1]) := ⟨Mem.heap_last w8 _⟩
 have hb := (Below.refl w8.heap.size w8).alloc (Nat.le_refl _) (.cells #[.int .i64 1, .int .i64 1, .int .i64 2, .int .i64 0, .int .i64 2, .int .i64 1, .int .i64 1] 3 (0, 0))
 have HBx := Aside0.mk (HB8.out.trans (hb.mono HB8.out.size))
 have HR3f := Aside0.mk (Kd.C_below HR3e.out hb)
 clear HR3e
 have HR4e := Aside0.mk (Kd.C_below HR4d.out hb)
 clear HR4d
 have HR6c := Aside0.mk (Kd.C_below HR6b.out hb)
 clear HR6b
 clear hb HB8
 go_wp2_with fail
 generalize w8.alloc (.cells #[.int .i64 1, .int .i64 1, .int .i64 2, .int .i64 0, .int .i64 2, .int .i64 1, .int .i64 1] 3 (0, 0)) = wx at HIX HBx HR3f HR4e HR6c ⊢
 refine (tangramref03_SameInts.calls 40 A3 c3 [1, 1, 2, 0, 2, 1, 1] (some ⟨w8.heap.size, 0, none⟩) 7 [1, 1, 2, 0, 2, 1, 1] true wx HR3f.out HL3.out (Mem.row_reads HIX.out (by decide)) (by decide) tangramlaw21_wakes.s1).mono ?_
 rintro e w9 ⟨rfl, hd⟩
 have hb := hd.below
 have HB9 := Aside0.mk (HBx.out.trans (hb.mono HBx.out.size))
 have HR4f := Aside0.mk (Kd.C_below HR4e.out hb)
 clear HR4e
 have HR6d := Aside0.mk (Kd.C_below HR6c.out hb)
 clear HR6c
 clear hb hd HIX HBx HR3f
 have HIX : Aside0 (Mem.IRow (w9.alloc (.cells #[.int .i64 2, .int .i64 1, .int .i64 2, .int .i64 1, .int .i64 0, .int .i64 1, .int .i64 0] 3 (0, 0))) w9.heap.size [2, 1, 2, 1, 0, 1, 0]) := ⟨Mem.heap_last w9 _⟩
 have hb := (Below.refl w9.heap.size w9).alloc (Nat.le_refl _) (.cells #[.int .i64 2, .int .i64 1, .int .i64 2, .int .i64 1, .int .i64 0, .int .i64 1, .int .i64 0] 3 (0, 0))
 have HBx := Aside0.mk (HB9.out.trans (hb.mono HB9.out.size))
 have HR4g := Aside0.mk (Kd.C_below HR4f.out hb)
 clear HR4f
 have HR6e := Aside0.mk (Kd.C_below HR6d.out hb)
 clear HR6d
 clear hb HB9
 go_wp2_with fail
 generalize w9.alloc (.cells #[.int .i64 2, .int .i64 1, .int .i64 2, .int .i64 1, .int .i64 0, .int .i64 1, .int .i64 0] 3 (0, 0)) = wx at HIX HBx HR4g HR6e ⊢
 refine (tangramref03_SameInts.calls 40 A4 c4 [2, 1, 2, 1, 0, 1, 0] (some ⟨w9.heap.size, 0, none⟩) 7 [2, 1, 2, 1, 0, 1, 0] true wx HR4g.out HL4.out (Mem.row_reads HIX.out (by decide)) (by decide) tangramlaw21_wakes.s2).mono ?_
 rintro e w10 ⟨rfl, hd⟩
 have hb := hd.below
 have HB10 := Aside0.mk (HBx.out.trans (hb.mono HBx.out.size))
 have HR6f := Aside0.mk (Kd.C_below HR6e.out hb)
 clear HR6e
 clear hb hd HIX HBx HR4g
 have HIX : Aside0 (Mem.IRow (w10.alloc (.cells #[.int .i64 0, .int .i64 1, .int .i64 2] 3 (0, 0))) w10.heap.size [0, 1, 2]) := ⟨Mem.heap_last w10 _⟩
 have hb := (Below.refl w10.heap.size w10).alloc (Nat.le_refl _) (.cells #[.int .i64 0, .int .i64 1, .int .i64 2] 3 (0, 0))
 have HBx := Aside0.mk (HB10.out.trans (hb.mono HB10.out.size))
 have HR6g := Aside0.mk (Kd.C_below HR6f.out hb)
 clear HR6f
 clear hb HB10
 go_wp2_with fail
 generalize w10.alloc (.cells #[.int .i64 0, .int .i64 1, .int .i64 2] 3 (0, 0)) = wx at HIX HBx HR6g ⊢
 refine (tangramref03_SameInts.calls 40 A6 c6 [0, 1, 2] (some ⟨w10.heap.size, 0, none⟩) 3 [0, 1, 2] true wx HR6g.out HL6.out (Mem.row_reads HIX.out (by decide)) (by decide) tangramlaw21_wakes.s3).mono ?_
 rintro e w11 ⟨rfl, hd⟩
 have hb := hd.below
 have HB11 := Aside0.mk (HBx.out.trans (hb.mono HBx.out.size))
 clear hb hd HIX HBx HR6g
 go_wp2_with fail
 go_ret
 exact ⟨rfl, HB11.out⟩
end Go.Proofs.Yteeihjpnhjnknaa.GAll
namespace Go.Proofs.Yteeihjpnhjnknaa.GAll
open Go.RowKit Go.Proofs.YteeihjpnhjnknaaW.PrintWords Go.Proofs.YteeihjpnhjnknaaW.PrintLast Go.Proofs.YteeihjpnhjnknaaW.PrintMore
attribute [local go_sem] max2_int min2_int max_two min_two max_three min_three max_four min_four   -- for this text's walks alone
set_option linter.unusedVariables false
set_option linter.unusedSimpArgs false
mutual
def tangramref03_Equal.j0 : Nat → Bool → Int → List (S89) → Int → List (S89) → Option (Bool)
 | 0, _, _, _, _, _ => none
 | k + 1, x19, x315000, x315001, x316000, x316001 => if x19 = true then (some false) else (tangramref03_Equal.l0 k 0 x315000 x315001 x316000 x316001)
def tangramref03_Equal.l0 : Nat → Int → Int → List (S89) → Int → List (S89) → Option (Bool)
 | 0, _, _, _, _, _ => none
 | k + 1, x5, x315000, x315001, x316000, x316001 => if x5 < (x315001.length : Int) then (if 0 ≤ x5 then (if x5 < (x316001.length : Int) then (if ((rd_T89 x315001 x5).f0) = ((rd_T89 x316001 x5).f0) then (if ((rd_T89 x315001 x5).f1) = ((rd_T89 x316001 x5).f1) then (tangramref03_Equal.l0 k (wrap64 (x5 + 1)) x315000 x315001 x316000 x316001) else (some false)) else (some false)) else (none)) else (none)) else (some true)
end
def tangramref03_Equal.f (k : Nat) (a0_0 : Int) (l0_1 : List (S89)) (a1_0 : Int) (l1_1 : List (S89)) : Option (Bool) := if a0_0 = a1_0 then (tangramref03_Equal.j0 k ((l0_1.length : Int) != (l1_1.length : Int)) a0_0 l0_1 a1_0 l1_1) else (tangramref03_Equal.j0 k true a0_0 l0_1 a1_0 l1_1)
theorem tangramref03_Equal.mono_l : ∀ k, (∀ y0 y1 y2 y3 y4, LeO (tangramref03_Equal.j0 k y0 y1 y2 y3 y4) (tangramref03_Equal.j0 (k + 1) y0 y1 y2 y3 y4)) ∧ (∀ y0 y1 y2 y3 y4, LeO (tangramref03_Equal.l0 k y0 y1 y2 y3 y4) (tangramref03_Equal.l0 (k + 1) y0 y1 y2 y3 y4))
 | 0 => ⟨fun _ _ _ _ _ r h => by simp [tangramref03_Equal.j0] at h, fun _ _ _ _ _ r h => by simp [tangramref03_Equal.l0] at h⟩
 | k + 1 => by
   obtain ⟨ih0, ih1⟩ := tangramref03_Equal.mono_l k
   refine ⟨?_, ?_⟩
   · intro y0 y1 y2 y3 y4
     unfold tangramref03_Equal.j0
     repeat' first
     | (with_reducible exact ih0 _ _ _ _ _)
     | (with_reducible exact ih1 _ _ _ _ _)
     | (with_reducible exact LeO.refl _)
     | (with_reducible exact LeO.none _)
     | (with_reducible refine LeO.ite ?_ ?_)
     | (with_reducible refine LeO.bind ?_ (fun _ => ?_))
     | exact ih0 _ _ _ _ _
     | exact ih1 _ _ _ _ _
     | exact LeO.none _
     | refine LeO.ite ?_ ?_
     | refine LeO.bind ?_ (fun _ => ?_)
   · intro y0 y1 y2 y3 y4
     unfold tangramref03_Equal.l0
     repeat' first
     | (with_reducible exact ih0 _ _ _ _ _)
     | (with_reducible exact ih1 _ _ _ _ _)
     | (with_reducible exact LeO.refl _)
     | (with_reducible exact LeO.none _)
     | (with_reducible refine LeO.ite ?_ ?_)
     | (with_reducible refine LeO.bind ?_ (fun _ => ?_))
     | exact ih0 _ _ _ _ _
     | exact ih1 _ _ _ _ _
     | exact LeO.none _
     | refine LeO.ite ?_ ?_
     | refine LeO.bind ?_ (fun _ => ?_)
theorem tangramref03_Equal.mono : ∀ a0 a1 a2 a3 k, LeO (tangramref03_Equal.f k a0 a1 a2 a3) (tangramref03_Equal.f (k + 1) a0 a1 a2 a3) := by
 intro a0 a1 a2 a3 k
 obtain ⟨ih0, ih1⟩ := tangramref03_Equal.mono_l k
 unfold tangramref03_Equal.f
 repeat' first
     | (with_reducible exact ih0 _ _ _ _ _)
     | (with_reducible exact ih1 _ _ _ _ _)
     | (with_reducible exact LeO.refl _)
     | (with_reducible exact LeO.none _)
     | (with_reducible refine LeO.ite ?_ ?_)
     | (with_reducible refine LeO.bind ?_ (fun _ => ?_))
     | exact ih0 _ _ _ _ _
     | exact ih1 _ _ _ _ _
     | exact LeO.none _
     | refine LeO.ite ?_ ?_
     | refine LeO.bind ?_ (fun _ => ?_)
set_option maxHeartbeats 8000000 in
set_option maxRecDepth 100000 in
theorem tangramref03_Equal.calls (k : Nat) (a0_0 : Int) (A0_1 : Option Addr) (c0_1 : Nat) (l0_1 : List (S89)) (a1_0 : Int) (A1_1 : Option Addr) (c1_1 : Nat) (l1_1 : List (S89)) (r : Bool) (w : World) (hr0_1 : Kd.C k89 w A0_1 l0_1.length l0_1) (hc0_1 : l0_1.length ≤ c0_1) (hr1_1 : Kd.C k89 w A1_1 l1_1.length l1_1) (hc1_1 : l1_1.length ≤ c1_1) (h : tangramref03_Equal.f k a0_0 l0_1 a1_0 l1_1 = some r) :
   Calls Try.prog 32 #[.agg #[.int .i64 a0_0, .slice A0_1 l0_1.length c0_1], .agg #[.int .i64 a1_0, .slice A1_1 l1_1.length c1_1]] w fun e w' => e = .returned (.bool r) ∧ Below w.heap.size w w' := by
 have hu24 := Try.underlying24
 have HR0_1 := Aside0.mk hr0_1
 have HC0_1 := Aside0.mk hc0_1
 clear hr0_1 hc0_1
 have HR1_1 := Aside0.mk hr1_1
 have HC1_1 := Aside0.mk hc1_1
 clear hr1_1 hc1_1
 have HB := Aside0.mk (Below.refl w.heap.size w)
 have H : (if a0_0 = a1_0 then (tangramref03_Equal.j0 k ((l0_1.length : Int) != (l1_1.length : Int)) a0_0 l0_1 a1_0 l1_1) else (tangramref03_Equal.j0 k true a0_0 l0_1 a1_0 l1_1)) = some r := h
 clear h
 have HC3 := Aside0.mk H
 clear H
 go_enter Try.func32, Try.ntmps32
 go_upto_region 1 with (first | ((with_reducible refine gate_dst (N := 2) rfl ?_); (try (refine gate_guard (by rfl) ?_; dsimp only)); refine box_event ?hg (N := 2) ?hd (cs := #[.int .i64 a0_0, .slice A0_1 l0_1.length c0_1]) (t := 24) ?hr ?_; (case hd => rfl); (case hg => rfl); (case hr => first | (go_simp; done) | (go_simp; rfl)); intro gb314 hg w4 hbox hb; have n0_ := Aside0.mk (below_step (by repeat (first | (with_reducible first | exact HB.out | apply below_alloc | apply pw_below_drewN | apply below_drew1) | exact HB.out)) hb); have n1_ := Aside0.mk (hbox); have n2_ := Aside0.mk ((by rw [hg]; exact (below_size (by repeat (first | (with_reducible first | exact HB.out | apply below_alloc | apply pw_below_drewN | apply below_drew1) | exact HB.out))) : w.heap.size ≤ gb314)); have n3_ := Aside0.mk ((by rw [hg]; exact (below_size (by repeat (first | (with_reducible first | exact HB.out | apply below_alloc | apply pw_below_drewN | apply below_drew1) | exact HB.out))) : w.heap.size ≤ gb314)); clear HB; have HB := n0_; have BK314 := n1_; have GW314 := n2_; have GE314 := n3_; clear n0_ n1_ n2_ n3_; clear hb hbox hg) | ((with_reducible refine gate_dst (N := 3) rfl ?_); (try (refine gate_guard (by rfl) ?_; dsimp only)); refine box_event ?hg (N := 3) ?hd (cs := #[.int .i64 a1_0, .slice A1_1 l1_1.length c1_1]) (t := 24) ?hr ?_; (case hd => rfl); (case hg => rfl); (case hr => first | (go_simp; done) | (go_simp; rfl)); intro gb315 hg w5 hbox hb; have n0_ := Aside0.mk (blk_below (g := gb314) (o := .cells #[.int .i64 a0_0, .slice A0_1 l0_1.length c0_1] 24 (0, 0)) (by (with_reducible repeat (first | refine blk_drewN ?_ _ | refine blk_drew ?_ | refine blk_alloc ?_ _)); exact BK314.out) hb); have n1_ := Aside0.mk (below_step (by repeat (first | (with_reducible first | exact HB.out | apply below_alloc | apply pw_below_drewN | apply below_drew1 | refine below_set ?_ GE314.out) | exact HB.out)) hb); have n2_ := Aside0.mk (hbox); have n3_ := Aside0.mk ((by rw [hg]; exact (below_size (by repeat (first | (with_reducible first | exact HB.out | apply below_alloc | apply pw_below_drewN | apply below_drew1 | refine below_set ?_ GE314.out) | exact HB.out))) : w.heap.size ≤ gb315)); have n4_ := Aside0.mk ((by rw [hg]; exact (below_size (by repeat (first | (with_reducible first | exact HB.out | apply below_alloc | apply pw_below_drewN | apply below_drew1 | refine below_set ?_ GE314.out) | exact HB.out))) : w.heap.size ≤ gb315)); have n5_ := Aside0.mk ((by rw [hg]; exact Nat.ne_of_lt (blk_lt (g := gb314) (o := .cells #[.int .i64 a0_0, .slice A0_1 l0_1.length c0_1] 24 (0, 0)) (by (with_reducible repeat (first | refine blk_drewN ?_ _ | refine blk_drew ?_ | refine blk_alloc ?_ _)); exact BK314.out)) : gb314 ≠ gb315)); have n6_ := Aside0.mk ((by rw [hg]; exact Nat.ne_of_gt (blk_lt (g := gb314) (o := .cells #[.int .i64 a0_0, .slice A0_1 l0_1.length c0_1] 24 (0, 0)) (by (with_reducible repeat (first | refine blk_drewN ?_ _ | refine blk_drew ?_ | refine blk_alloc ?_ _)); exact BK314.out)) : gb315 ≠ gb314)); clear BK314; clear HB; have BK314 := n0_; have HB := n1_; have BK315 := n2_; have GW315 := n3_; have GE315 := n4_; have NB314_315 := n5_; have NB315_314 := n6_; clear n0_ n1_ n2_ n3_ n4_ n5_ n6_; clear hb hbox hg))
 repeat (go_quiet (first | ((with_reducible refine gate_dst (N := 2) rfl ?_); (try (refine gate_guard (by rfl) ?_; dsimp only)); refine box_event ?hg (N := 2) ?hd (cs := #[.int .i64 a0_0, .slice A0_1 l0_1.length c0_1]) (t := 24) ?hr ?_; (case hd => rfl); (case hg => rfl); (case hr => first | (go_simp; done) | (go_simp; rfl)); intro gb314 hg w4 hbox hb; have n0_ := Aside0.mk (below_step (by repeat (first | (with_reducible first | exact HB.out | apply below_alloc | apply pw_below_drewN | apply below_drew1) | exact HB.out)) hb); have n1_ := Aside0.mk (hbox); have n2_ := Aside0.mk ((by rw [hg]; exact (below_size (by repeat (first | (with_reducible first | exact HB.out | apply below_alloc | apply pw_below_drewN | apply below_drew1) | exact HB.out))) : w.heap.size ≤ gb314)); have n3_ := Aside0.mk ((by rw [hg]; exact (below_size (by repeat (first | (with_reducible first | exact HB.out | apply below_alloc | apply pw_below_drewN | apply below_drew1) | exact HB.out))) : w.heap.size ≤ gb314)); clear HB; have HB := n0_; have BK314 := n1_; have GW314 := n2_; have GE314 := n3_; clear n0_ n1_ n2_ n3_; clear hb hbox hg) | ((with_reducible refine gate_dst (N := 3) rfl ?_); (try (refine gate_guard (by rfl) ?_; dsimp only)); refine box_event ?hg (N := 3) ?hd (cs := #[.int .i64 a1_0, .slice A1_1 l1_1.length c1_1]) (t := 24) ?hr ?_; (case hd => rfl); (case hg => rfl); (case hr => first | (go_simp; done) | (go_simp; rfl)); intro gb315 hg w5 hbox hb; have n0_ := Aside0.mk (blk_below (g := gb314) (o := .cells #[.int .i64 a0_0, .slice A0_1 l0_1.length c0_1] 24 (0, 0)) (by (with_reducible repeat (first | refine blk_drewN ?_ _ | refine blk_drew ?_ | refine blk_alloc ?_ _)); exact BK314.out) hb); have n1_ := Aside0.mk (below_step (by repeat (first | (with_reducible first | exact HB.out | apply below_alloc | apply pw_below_drewN | apply below_drew1 | refine below_set ?_ GE314.out) | exact HB.out)) hb); have n2_ := Aside0.mk (hbox); have n3_ := Aside0.mk ((by rw [hg]; exact (below_size (by repeat (first | (with_reducible first | exact HB.out | apply below_alloc | apply pw_below_drewN | apply below_drew1 | refine below_set ?_ GE314.out) | exact HB.out))) : w.heap.size ≤ gb315)); have n4_ := Aside0.mk ((by rw [hg]; exact (below_size (by repeat (first | (with_reducible first | exact HB.out | apply below_alloc | apply pw_below_drewN | apply below_drew1 | refine below_set ?_ GE314.out) | exact HB.out))) : w.heap.size ≤ gb315)); have n5_ := Aside0.mk ((by rw [hg]; exact Nat.ne_of_lt (blk_lt (g := gb314) (o := .cells #[.int .i64 a0_0, .slice A0_1 l0_1.length c0_1] 24 (0, 0)) (by (with_reducible repeat (first | refine blk_drewN ?_ _ | refine blk_drew ?_ | refine blk_alloc ?_ _)); exact BK314.out)) : gb314 ≠ gb315)); have n6_ := Aside0.mk ((by rw [hg]; exact Nat.ne_of_gt (blk_lt (g := gb314) (o := .cells #[.int .i64 a0_0, .slice A0_1 l0_1.length c0_1] 24 (0, 0)) (by (with_reducible repeat (first | refine blk_drewN ?_ _ | refine blk_drew ?_ | refine blk_alloc ?_ _)); exact BK314.out)) : gb315 ≠ gb314)); clear BK314; clear HB; have BK314 := n0_; have HB := n1_; have BK315 := n2_; have GW315 := n3_; have GE315 := n4_; have NB314_315 := n5_; have NB315_314 := n6_; clear n0_ n1_ n2_ n3_ n4_ n5_ n6_; clear hb hbox hg)); go_upto_region 1 with (first | ((with_reducible refine gate_dst (N := 2) rfl ?_); (try (refine gate_guard (by rfl) ?_; dsimp only)); refine box_event ?hg (N := 2) ?hd (cs := #[.int .i64 a0_0, .slice A0_1 l0_1.length c0_1]) (t := 24) ?hr ?_; (case hd => rfl); (case hg => rfl); (case hr => first | (go_simp; done) | (go_simp; rfl)); intro gb314 hg w4 hbox hb; have n0_ := Aside0.mk (below_step (by repeat (first | (with_reducible first | exact HB.out | apply below_alloc | apply pw_below_drewN | apply below_drew1) | exact HB.out)) hb); have n1_ := Aside0.mk (hbox); have n2_ := Aside0.mk ((by rw [hg]; exact (below_size (by repeat (first | (with_reducible first | exact HB.out | apply below_alloc | apply pw_below_drewN | apply below_drew1) | exact HB.out))) : w.heap.size ≤ gb314)); have n3_ := Aside0.mk ((by rw [hg]; exact (below_size (by repeat (first | (with_reducible first | exact HB.out | apply below_alloc | apply pw_below_drewN | apply below_drew1) | exact HB.out))) : w.heap.size ≤ gb314)); clear HB; have HB := n0_; have BK314 := n1_; have GW314 := n2_; have GE314 := n3_; clear n0_ n1_ n2_ n3_; clear hb hbox hg) | ((with_reducible refine gate_dst (N := 3) rfl ?_); (try (refine gate_guard (by rfl) ?_; dsimp only)); refine box_event ?hg (N := 3) ?hd (cs := #[.int .i64 a1_0, .slice A1_1 l1_1.length c1_1]) (t := 24) ?hr ?_; (case hd => rfl); (case hg => rfl); (case hr => first | (go_simp; done) | (go_simp; rfl)); intro gb315 hg w5 hbox hb; have n0_ := Aside0.mk (blk_below (g := gb314) (o := .cells #[.int .i64 a0_0, .slice A0_1 l0_1.length c0_1] 24 (0, 0)) (by (with_reducible repeat (first | refine blk_drewN ?_ _ | refine blk_drew ?_ | refine blk_alloc ?_ _)); exact BK314.out) hb); have n1_ := Aside0.mk (below_step (by repeat (first | (with_reducible first | exact HB.out | apply below_alloc | apply pw_below_drewN | apply below_drew1 | refine below_set ?_ GE314.out) | exact HB.out)) hb); have n2_ := Aside0.mk (hbox); have n3_ := Aside0.mk ((by rw [hg]; exact (below_size (by repeat (first | (with_reducible first | exact HB.out | apply below_alloc | apply pw_below_drewN | apply below_drew1 | refine below_set ?_ GE314.out) | exact HB.out))) : w.heap.size ≤ gb315)); have n4_ := Aside0.mk ((by rw [hg]; exact (below_size (by repeat (first | (with_reducible first | exact HB.out | apply below_alloc | apply pw_below_drewN | apply below_drew1 | refine below_set ?_ GE314.out) | exact HB.out))) : w.heap.size ≤ gb315)); have n5_ := Aside0.mk ((by rw [hg]; exact Nat.ne_of_lt (blk_lt (g := gb314) (o := .cells #[.int .i64 a0_0, .slice A0_1 l0_1.length c0_1] 24 (0, 0)) (by (with_reducible repeat (first | refine blk_drewN ?_ _ | refine blk_drew ?_ | refine blk_alloc ?_ _)); exact BK314.out)) : gb314 ≠ gb315)); have n6_ := Aside0.mk ((by rw [hg]; exact Nat.ne_of_gt (blk_lt (g := gb314) (o := .cells #[.int .i64 a0_0, .slice A0_1 l0_1.length c0_1] 24 (0, 0)) (by (with_reducible repeat (first | refine blk_drewN ?_ _ | refine blk_drew ?_ | refine blk_alloc ?_ _)); exact BK314.out)) : gb315 ≠ gb314)); clear BK314; clear HB; have BK314 := n0_; have HB := n1_; have BK315 := n2_; have GW315 := n3_; have GE315 := n4_; have NB314_315 := n5_; have NB315_314 := n6_; clear n0_ n1_ n2_ n3_ n4_ n5_ n6_; clear hb hbox hg)))
 (try simp only [Act.put, List.setIfInBounds_toArray, List.set_cons_zero, List.set_cons_succ])
 go_cut [19] (fun v19 wc => ∃ (kq : Nat) (x19_2 : Bool), v19 = .bool x19_2 ∧ Aside0 (tangramref03_Equal.j0 kq x19_2 a0_0 l0_1 a1_0 l1_1 = some r) ∧ Aside0 (kq ≤ k) ∧ Aside0 (wc.heap[gb314]? = some (.cells #[.int .i64 a0_0, (.slice A0_1 l0_1.length c0_1)] 24 (0, 0))) ∧ Aside0 (wc.heap[gb315]? = some (.cells #[.int .i64 a1_0, (.slice A1_1 l1_1.length c1_1)] 24 (0, 0))) ∧ Aside0 (Below w.heap.size w wc))
 case first =>
   have H := HC3.out
   clear HC3
   by_cases c6 : a0_0 = a1_0
   · rw [if_pos c6] at H
     have c6b0 : (a0_0 == a1_0) = true := beq_iff_eq.mpr c6
     have c6b1 : (a0_0 != a1_0) = false := bne_eq_false_iff_eq.mpr c6
     clear c6
     (first | rw [c6b0] | (simp only [i64_w, i32_w]; rw [c6b0]) | skip)
     have H' := Aside0.mk H
     clear H
     have hnb7 := NB314_315.out
     have hnc7 := NB315_314.out
     have hcz8_0 : w5.cell? ⟨gb314, 0, none⟩ = some (.int .i64 a0_0) := (blk_cell BK314.out 0).trans rfl
     have hcz8_1 : w5.cell? ⟨gb314, 1, none⟩ = some (.slice A0_1 l0_1.length c0_1) := (blk_cell BK314.out 1).trans rfl
     have hfz8_0 := blk_frozen BK314.out 0
     have hfz8_1 := blk_frozen BK314.out 1
     have hcz9_0 : w5.cell? ⟨gb315, 0, none⟩ = some (.int .i64 a1_0) := (blk_cell BK315.out 0).trans rfl
     have hcz9_1 : w5.cell? ⟨gb315, 1, none⟩ = some (.slice A1_1 l1_1.length c1_1) := (blk_cell BK315.out 1).trans rfl
     have hfz9_0 := blk_frozen BK315.out 0
     have hfz9_1 := blk_frozen BK315.out 1
     go_wp2
     repeat (go_quiet (fail); try go_wp2)
     go_meet
     case rel => exact ⟨_, (((l0_1.length : Int) != (l1_1.length : Int))), (by first | rfl | (simp; done) | (simp [*]; done)), H', ⟨by first | omega | exact Nat.le_refl _⟩, ⟨by (with_reducible repeat (first | refine blk_drewN ?_ _ | refine blk_drew ?_ | refine blk_alloc ?_ _)); exact BK314.out⟩, ⟨by (with_reducible repeat (first | refine blk_drewN ?_ _ | refine blk_drew ?_ | refine blk_alloc ?_ _)); exact BK315.out⟩, ⟨by repeat (first | (with_reducible first | exact HB.out | apply below_alloc | apply pw_below_drewN | apply below_drew1 | refine below_set ?_ GE314.out | refine below_set ?_ GE315.out) | exact HB.out)⟩⟩
   · rw [if_neg c6] at H
     have c6b0 : (a0_0 == a1_0) = false := beq_eq_false_iff_ne.mpr c6
     have c6b1 : (a0_0 != a1_0) = true := bne_iff_ne.mpr c6
     (first | rw [c6b0] | (simp only [i64_w, i32_w]; rw [c6b0]) | skip)
     have H' := Aside0.mk H
     clear H
     have hnb10 := NB314_315.out
     have hnc10 := NB315_314.out
     have hcz11_0 : w5.cell? ⟨gb314, 0, none⟩ = some (.int .i64 a0_0) := (blk_cell BK314.out 0).trans rfl
     have hcz11_1 : w5.cell? ⟨gb314, 1, none⟩ = some (.slice A0_1 l0_1.length c0_1) := (blk_cell BK314.out 1).trans rfl
     have hfz11_0 := blk_frozen BK314.out 0
     have hfz11_1 := blk_frozen BK314.out 1
     have hcz12_0 : w5.cell? ⟨gb315, 0, none⟩ = some (.int .i64 a1_0) := (blk_cell BK315.out 0).trans rfl
     have hcz12_1 : w5.cell? ⟨gb315, 1, none⟩ = some (.slice A1_1 l1_1.length c1_1) := (blk_cell BK315.out 1).trans rfl
     have hfz12_0 := blk_frozen BK315.out 0
     have hfz12_1 := blk_frozen BK315.out 1
     go_wp2
     repeat (go_quiet (fail); try go_wp2)
     go_meet
     case rel => exact ⟨_, (true), (by first | rfl | (simp; done) | (simp [*]; done)), H', ⟨by first | omega | exact Nat.le_refl _⟩, ⟨by (with_reducible repeat (first | refine blk_drewN ?_ _ | refine blk_drew ?_ | refine blk_alloc ?_ _)); exact BK314.out⟩, ⟨by (with_reducible repeat (first | refine blk_drewN ?_ _ | refine blk_drew ?_ | refine blk_alloc ?_ _)); exact BK315.out⟩, ⟨by repeat (first | (with_reducible first | exact HB.out | apply below_alloc | apply pw_below_drewN | apply below_drew1 | refine below_set ?_ GE314.out | refine below_set ?_ GE315.out) | exact HB.out)⟩⟩
 case rest =>
   clear HC3
   try clear c1
   try clear p2
   try clear c3
   try clear c6
   try clear c6b0
   try clear c6b1
   try clear c7
   try clear c10
   try clear hcz11_0
   try clear hcz11_1
   try clear hcz12_0
   try clear hcz12_1
   try clear hcz8_0
   try clear hcz8_1
   try clear hcz9_0
   try clear hcz9_1
   try clear hfz11_0
   try clear hfz11_1
   try clear hfz12_0
   try clear hfz12_1
   try clear hfz8_0
   try clear hfz8_1
   try clear hfz9_0
   try clear hfz9_1
   obtain ⟨kq, x19_2, rfl, HA, HJ2, BK314, BK315, HB⟩ := hcut
   cases kq with
   | zero => exact absurd HA.out (by simp [tangramref03_Equal.j0])
   | succ kj2 =>
     have H := HA.out
     clear HA
     simp only [tangramref03_Equal.j0] at H
     by_cases c13 : x19_2 = true
     · subst c13
       have H1 : (some false) = some r := by rw [if_pos rfl] at H; exact H
       clear H
       have H := H1
       clear H1
       obtain rfl := Option.some.inj H
       go_wp2
       repeat (go_quiet (fail); try go_wp2)
       go_ret
       exact ⟨by first | rfl | (simp [errW_none, errW_some] <;> rfl) | (simp [*, errW_none, errW_some] <;> rfl), by repeat (first | (with_reducible first | exact HB.out | apply below_alloc | apply pw_below_drewN | apply below_drew1 | refine below_set ?_ GE314.out | refine below_set ?_ GE315.out) | exact HB.out)⟩
     · replace c13 := Bool.eq_false_iff.mpr c13
       subst c13
       have H1 : (tangramref03_Equal.l0 kj2 0 a0_0 l0_1 a1_0 l1_1) = some r := by rw [if_neg (show ¬ (false = true) by decide)] at H; exact H
       clear H
       have H := H1
       clear H1
       have H' := Aside0.mk H
       clear H
       go_wp2
       repeat (go_quiet (fail); try go_wp2)
       go_loopg [5] kj2 (fun kq v5 w' => ∃ (x5_2 : Int), v5 = .int .i64 x5_2 ∧ Aside0 (tangramref03_Equal.l0 kq x5_2 a0_0 l0_1 a1_0 l1_1 = some r) ∧ Aside0 (kq ≤ kj2) ∧ Aside0 (w'.heap[gb314]? = some (.cells #[.int .i64 a0_0, (.slice A0_1 l0_1.length c0_1)] 24 (0, 0))) ∧ Aside0 (w'.heap[gb315]? = some (.cells #[.int .i64 a1_0, (.slice A1_1 l1_1.length c1_1)] 24 (0, 0))) ∧ Aside0 (Below w.heap.size w w'))
       case atStart => exact ⟨(0), (by first | rfl | (simp; done) | (simp [*]; done)), H', ⟨Nat.le_refl _⟩, ⟨by (with_reducible repeat (first | refine blk_drewN ?_ _ | refine blk_drew ?_ | refine blk_alloc ?_ _)); exact BK314.out⟩, ⟨by (with_reducible repeat (first | refine blk_drewN ?_ _ | refine blk_drew ?_ | refine blk_alloc ?_ _)); exact BK315.out⟩, ⟨by repeat (first | (with_reducible first | exact HB.out | apply below_alloc | apply pw_below_drewN | apply below_drew1 | refine below_set ?_ GE314.out | refine below_set ?_ GE315.out) | exact HB.out)⟩⟩
       case round =>
         clear H'
         try clear c1
         try clear p2
         try clear c3
         try clear c6
         try clear c6b0
         try clear c6b1
         try clear c7
         try clear c10
         try clear c13
         try clear hcz11_0
         try clear hcz11_1
         try clear hcz12_0
         try clear hcz12_1
         try clear hcz8_0
         try clear hcz8_1
         try clear hcz9_0
         try clear hcz9_1
         try clear hfz11_0
         try clear hfz11_1
         try clear hfz12_0
         try clear hfz12_1
         try clear hfz8_0
         try clear hfz8_1
         try clear hfz9_0
         try clear hfz9_1
         try clear p2
         obtain ⟨x5_2, rfl, HA, HK2, BK314, BK315, HB⟩ := hrel
         cases gk with
         | zero => exact absurd HA.out (by simp [tangramref03_Equal.l0])
         | succ k2 =>
           have H := HA.out
           clear HA
           simp only [tangramref03_Equal.l0] at H
           by_cases c14 : x5_2 < (l0_1.length : Int)
           · rw [if_pos c14] at H
             have c14b0 : decide (x5_2 < (l0_1.length : Int)) = true := decide_eq_true c14
             clear c14
             by_cases c15 : 0 ≤ x5_2
             · rw [if_pos c15] at H
               have c15b0 : decide (0 ≤ x5_2) = true := decide_eq_true c15
               clear c15
               by_cases c16 : x5_2 < (l1_1.length : Int)
               · rw [if_pos c16] at H
                 have c16b0 : decide (x5_2 < (l1_1.length : Int)) = true := decide_eq_true c16
                 clear c16
                 by_cases c17 : ((rd_T89 l0_1 x5_2).f0) = ((rd_T89 l1_1 x5_2).f0)
                 · rw [if_pos c17] at H
                   have c17b0 : (((rd_T89 l0_1 x5_2).f0) == ((rd_T89 l1_1 x5_2).f0)) = true := beq_iff_eq.mpr c17
                   have c17b1 : (((rd_T89 l0_1 x5_2).f0) != ((rd_T89 l1_1 x5_2).f0)) = false := bne_eq_false_iff_eq.mpr c17
                   clear c17
                   by_cases c18 : ((rd_T89 l0_1 x5_2).f1) = ((rd_T89 l1_1 x5_2).f1)
                   · rw [if_pos c18] at H
                     have c18b0 : (((rd_T89 l0_1 x5_2).f1) == ((rd_T89 l1_1 x5_2).f1)) = true := beq_iff_eq.mpr c18
                     have c18b1 : (((rd_T89 l0_1 x5_2).f1) != ((rd_T89 l1_1 x5_2).f1)) = false := bne_eq_false_iff_eq.mpr c18
                     clear c18
                     have H' := Aside0.mk H
                     clear H
                     have hnb19 := NB314_315.out
                     have hnc19 := NB315_314.out
                     have hcz20_0 : wr.cell? ⟨gb314, 0, none⟩ = some (.int .i64 a0_0) := (blk_cell BK314.out 0).trans rfl
                     have hcz20_1 : wr.cell? ⟨gb314, 1, none⟩ = some (.slice A0_1 l0_1.length c0_1) := (blk_cell BK314.out 1).trans rfl
                     have hfz20_0 := blk_frozen BK314.out 0
                     have hfz20_1 := blk_frozen BK314.out 1
                     have p316 : 0 ≤ (x5_2 : Int) := of_decide_eq_true (by first | (with_reducible assumption) | assumption)
                     have q316 : x5_2 < (l0_1.length : Int) := of_decide_eq_true (by first | (with_reducible assumption) | assumption)
                     obtain ⟨ad316, e316, hx316_0, hx316_1⟩ := at_T89 HR0_1.out x5_2 p316 q316
                     cases e316
                     replace hx316_0 := (HB.out.cell (World.block_lt_of_cell? w _ hx316_0)).trans hx316_0
                     replace hx316_1 := (HB.out.cell (World.block_lt_of_cell? w _ hx316_1)).trans hx316_1
                     replace p316 := eq_true p316
                     replace q316 := eq_true q316
                     have hcz21_0 : wr.cell? ⟨gb315, 0, none⟩ = some (.int .i64 a1_0) := (blk_cell BK315.out 0).trans rfl
                     have hcz21_1 : wr.cell? ⟨gb315, 1, none⟩ = some (.slice A1_1 l1_1.length c1_1) := (blk_cell BK315.out 1).trans rfl
                     have hfz21_0 := blk_frozen BK315.out 0
                     have hfz21_1 := blk_frozen BK315.out 1
                     have p317 : 0 ≤ (x5_2 : Int) := of_decide_eq_true (by first | (with_reducible assumption) | assumption)
                     have q317 : x5_2 < (l1_1.length : Int) := of_decide_eq_true (by first | (with_reducible assumption) | assumption)
                     obtain ⟨ad317, e317, hx317_0, hx317_1⟩ := at_T89 HR1_1.out x5_2 p317 q317
                     cases e317
                     replace hx317_0 := (HB.out.cell (World.block_lt_of_cell? w _ hx317_0)).trans hx317_0
                     replace hx317_1 := (HB.out.cell (World.block_lt_of_cell? w _ hx317_1)).trans hx317_1
                     replace p317 := eq_true p317
                     replace q317 := eq_true q317
                     have p318 : 0 ≤ (x5_2 : Int) := of_decide_eq_true (by first | (with_reducible assumption) | assumption)
                     have q318 : x5_2 < (l0_1.length : Int) := of_decide_eq_true (by first | (with_reducible assumption) | assumption)
                     obtain ⟨ad318, e318, hx318_0, hx318_1⟩ := at_T89 HR0_1.out x5_2 p318 q318
                     obtain rfl : ad316 = ad318 := (by injection e318)
                     replace hx318_0 := (HB.out.cell (World.block_lt_of_cell? w _ hx318_0)).trans hx318_0
                     replace hx318_1 := (HB.out.cell (World.block_lt_of_cell? w _ hx318_1)).trans hx318_1
                     replace p318 := eq_true p318
                     replace q318 := eq_true q318
                     have p319 : 0 ≤ (x5_2 : Int) := of_decide_eq_true (by first | (with_reducible assumption) | assumption)
                     have q319 : x5_2 < (l1_1.length : Int) := of_decide_eq_true (by first | (with_reducible assumption) | assumption)
                     obtain ⟨ad319, e319, hx319_0, hx319_1⟩ := at_T89 HR1_1.out x5_2 p319 q319
                     obtain rfl : ad317 = ad319 := (by injection e319)
                     replace hx319_0 := (HB.out.cell (World.block_lt_of_cell? w _ hx319_0)).trans hx319_0
                     replace hx319_1 := (HB.out.cell (World.block_lt_of_cell? w _ hx319_1)).trans hx319_1
                     replace p319 := eq_true p319
                     replace q319 := eq_true q319
                     go_wp2
                     repeat (go_quiet (fail); try go_wp2)
                     go_roundg k2
                     case measure => have := HJ2.out; have := HK2.out; omega
                     case rel => exact ⟨(wrap64 (x5_2 + 1)), (by first | rfl | (simp; done) | (simp [*]; done)), H', ⟨by have := HJ2.out; have := HK2.out; omega⟩, ⟨by (with_reducible repeat (first | refine blk_drewN ?_ _ | refine blk_drew ?_ | refine blk_alloc ?_ _)); exact BK314.out⟩, ⟨by (with_reducible repeat (first | refine blk_drewN ?_ _ | refine blk_drew ?_ | refine blk_alloc ?_ _)); exact BK315.out⟩, ⟨by repeat (first | (with_reducible first | exact HB.out | apply below_alloc | apply pw_below_drewN | apply below_drew1 | refine below_set ?_ GE314.out | refine below_set ?_ GE315.out) | exact HB.out)⟩⟩
                   · rw [if_neg c18] at H
                     have c18b0 : (((rd_T89 l0_1 x5_2).f1) == ((rd_T89 l1_1 x5_2).f1)) = false := beq_eq_false_iff_ne.mpr c18
                     have c18b1 : (((rd_T89 l0_1 x5_2).f1) != ((rd_T89 l1_1 x5_2).f1)) = true := bne_iff_ne.mpr c18
                     obtain rfl := Option.some.inj H
                     have hnb22 := NB314_315.out
                     have hnc22 := NB315_314.out
                     have hcz23_0 : wr.cell? ⟨gb314, 0, none⟩ = some (.int .i64 a0_0) := (blk_cell BK314.out 0).trans rfl
                     have hcz23_1 : wr.cell? ⟨gb314, 1, none⟩ = some (.slice A0_1 l0_1.length c0_1) := (blk_cell BK314.out 1).trans rfl
                     have hfz23_0 := blk_frozen BK314.out 0
                     have hfz23_1 := blk_frozen BK314.out 1
                     have p316 : 0 ≤ (x5_2 : Int) := of_decide_eq_true (by first | (with_reducible assumption) | assumption)
                     have q316 : x5_2 < (l0_1.length : Int) := of_decide_eq_true (by first | (with_reducible assumption) | assumption)
                     obtain ⟨ad316, e316, hx316_0, hx316_1⟩ := at_T89 HR0_1.out x5_2 p316 q316
                     cases e316
                     replace hx316_0 := (HB.out.cell (World.block_lt_of_cell? w _ hx316_0)).trans hx316_0
                     replace hx316_1 := (HB.out.cell (World.block_lt_of_cell? w _ hx316_1)).trans hx316_1
                     replace p316 := eq_true p316
                     replace q316 := eq_true q316
                     have hcz24_0 : wr.cell? ⟨gb315, 0, none⟩ = some (.int .i64 a1_0) := (blk_cell BK315.out 0).trans rfl
                     have hcz24_1 : wr.cell? ⟨gb315, 1, none⟩ = some (.slice A1_1 l1_1.length c1_1) := (blk_cell BK315.out 1).trans rfl
                     have hfz24_0 := blk_frozen BK315.out 0
                     have hfz24_1 := blk_frozen BK315.out 1
                     have p317 : 0 ≤ (x5_2 : Int) := of_decide_eq_true (by first | (with_reducible assumption) | assumption)
                     have q317 : x5_2 < (l1_1.length : Int) := of_decide_eq_true (by first | (with_reducible assumption) | assumption)
                     obtain ⟨ad317, e317, hx317_0, hx317_1⟩ := at_T89 HR1_1.out x5_2 p317 q317
                     cases e317
                     replace hx317_0 := (HB.out.cell (World.block_lt_of_cell? w _ hx317_0)).trans hx317_0
                     replace hx317_1 := (HB.out.cell (World.block_lt_of_cell? w _ hx317_1)).trans hx317_1
                     replace p317 := eq_true p317
                     replace q317 := eq_true q317
                     have p318 : 0 ≤ (x5_2 : Int) := of_decide_eq_true (by first | (with_reducible assumption) | assumption)
                     have q318 : x5_2 < (l0_1.length : Int) := of_decide_eq_true (by first | (with_reducible assumption) | assumption)
                     obtain ⟨ad318, e318, hx318_0, hx318_1⟩ := at_T89 HR0_1.out x5_2 p318 q318
                     obtain rfl : ad316 = ad318 := (by injection e318)
                     replace hx318_0 := (HB.out.cell (World.block_lt_of_cell? w _ hx318_0)).trans hx318_0
                     replace hx318_1 := (HB.out.cell (World.block_lt_of_cell? w _ hx318_1)).trans hx318_1
                     replace p318 := eq_true p318
                     replace q318 := eq_true q318
                     have p319 : 0 ≤ (x5_2 : Int) := of_decide_eq_true (by first | (with_reducible assumption) | assumption)
                     have q319 : x5_2 < (l1_1.length : Int) := of_decide_eq_true (by first | (with_reducible assumption) | assumption)
                     obtain ⟨ad319, e319, hx319_0, hx319_1⟩ := at_T89 HR1_1.out x5_2 p319 q319
                     obtain rfl : ad317 = ad319 := (by injection e319)
                     replace hx319_0 := (HB.out.cell (World.block_lt_of_cell? w _ hx319_0)).trans hx319_0
                     replace hx319_1 := (HB.out.cell (World.block_lt_of_cell? w _ hx319_1)).trans hx319_1
                     replace p319 := eq_true p319
                     replace q319 := eq_true q319
                     go_wp2
                     repeat (go_quiet (fail); try go_wp2)
                     go_ret
                     exact ⟨by first | rfl | (simp [errW_none, errW_some] <;> rfl) | (simp [*, errW_none, errW_some] <;> rfl), by repeat (first | (with_reducible first | exact HB.out | apply below_alloc | apply pw_below_drewN | apply below_drew1 | refine below_set ?_ GE314.out | refine below_set ?_ GE315.out) | exact HB.out)⟩
                 · rw [if_neg c17] at H
                   have c17b0 : (((rd_T89 l0_1 x5_2).f0) == ((rd_T89 l1_1 x5_2).f0)) = false := beq_eq_false_iff_ne.mpr c17
                   have c17b1 : (((rd_T89 l0_1 x5_2).f0) != ((rd_T89 l1_1 x5_2).f0)) = true := bne_iff_ne.mpr c17
                   obtain rfl := Option.some.inj H
                   have hnb25 := NB314_315.out
                   have hnc25 := NB315_314.out
                   have hcz26_0 : wr.cell? ⟨gb314, 0, none⟩ = some (.int .i64 a0_0) := (blk_cell BK314.out 0).trans rfl
                   have hcz26_1 : wr.cell? ⟨gb314, 1, none⟩ = some (.slice A0_1 l0_1.length c0_1) := (blk_cell BK314.out 1).trans rfl
                   have hfz26_0 := blk_frozen BK314.out 0
                   have hfz26_1 := blk_frozen BK314.out 1
                   have p316 : 0 ≤ (x5_2 : Int) := of_decide_eq_true (by first | (with_reducible assumption) | assumption)
                   have q316 : x5_2 < (l0_1.length : Int) := of_decide_eq_true (by first | (with_reducible assumption) | assumption)
                   obtain ⟨ad316, e316, hx316_0, hx316_1⟩ := at_T89 HR0_1.out x5_2 p316 q316
                   cases e316
                   replace hx316_0 := (HB.out.cell (World.block_lt_of_cell? w _ hx316_0)).trans hx316_0
                   replace hx316_1 := (HB.out.cell (World.block_lt_of_cell? w _ hx316_1)).trans hx316_1
                   replace p316 := eq_true p316
                   replace q316 := eq_true q316
                   have hcz27_0 : wr.cell? ⟨gb315, 0, none⟩ = some (.int .i64 a1_0) := (blk_cell BK315.out 0).trans rfl
                   have hcz27_1 : wr.cell? ⟨gb315, 1, none⟩ = some (.slice A1_1 l1_1.length c1_1) := (blk_cell BK315.out 1).trans rfl
                   have hfz27_0 := blk_frozen BK315.out 0
                   have hfz27_1 := blk_frozen BK315.out 1
                   have p317 : 0 ≤ (x5_2 : Int) := of_decide_eq_true (by first | (with_reducible assumption) | assumption)
                   have q317 : x5_2 < (l1_1.length : Int) := of_decide_eq_true (by first | (with_reducible assumption) | assumption)
                   obtain ⟨ad317, e317, hx317_0, hx317_1⟩ := at_T89 HR1_1.out x5_2 p317 q317
                   cases e317
                   replace hx317_0 := (HB.out.cell (World.block_lt_of_cell? w _ hx317_0)).trans hx317_0
                   replace hx317_1 := (HB.out.cell (World.block_lt_of_cell? w _ hx317_1)).trans hx317_1
                   replace p317 := eq_true p317
                   replace q317 := eq_true q317
                   go_wp2
                   repeat (go_quiet (fail); try go_wp2)
                   go_ret
                   exact ⟨by first | rfl | (simp [errW_none, errW_some] <;> rfl) | (simp [*, errW_none, errW_some] <;> rfl), by repeat (first | (with_reducible first | exact HB.out | apply below_alloc | apply pw_below_drewN | apply below_drew1 | refine below_set ?_ GE314.out | refine below_set ?_ GE315.out) | exact HB.out)⟩
               · rw [if_neg c16] at H
                 exact absurd H (by simp)
             · rw [if_neg c15] at H
               exact absurd H (by simp)
           · rw [if_neg c14] at H
             have c14b0 : decide (x5_2 < (l0_1.length : Int)) = false := decide_eq_false c14
             clear c14
             obtain rfl := Option.some.inj H
             have hnb28 := NB314_315.out
             have hnc28 := NB315_314.out
             have hcz29_0 : wr.cell? ⟨gb314, 0, none⟩ = some (.int .i64 a0_0) := (blk_cell BK314.out 0).trans rfl
             have hcz29_1 : wr.cell? ⟨gb314, 1, none⟩ = some (.slice A0_1 l0_1.length c0_1) := (blk_cell BK314.out 1).trans rfl
             have hfz29_0 := blk_frozen BK314.out 0
             have hfz29_1 := blk_frozen BK314.out 1
             go_wp2
             repeat (go_quiet (fail); try go_wp2)
             go_ret
             exact ⟨by first | rfl | (simp [errW_none, errW_some] <;> rfl) | (simp [*, errW_none, errW_some] <;> rfl), by repeat (first | (with_reducible first | exact HB.out | apply below_alloc | apply pw_below_drewN | apply below_drew1 | refine below_set ?_ GE314.out | refine below_set ?_ GE315.out) | exact HB.out)⟩
end Go.Proofs.Yteeihjpnhjnknaa.GAll
namespace Go.Proofs.Yteeihjpnhjnknaa.GAll
open Go.RowKit Go.Proofs.YteeihjpnhjnknaaW.PrintWords Go.Proofs.YteeihjpnhjnknaaW.PrintLast Go.Proofs.YteeihjpnhjnknaaW.PrintMore
attribute [local go_sem] max2_int min2_int max_two min_two max_three min_three max_four min_four   -- for this text's walks alone
set_option linter.unusedVariables false
set_option linter.unusedSimpArgs false
def tangramref21_Rooted.f (k : Nat) (a0_0 : Int) (l0_1 : List S89) (l1 : List (List Int)) (a2 : Int) : Option (List Int × Int) := (tangramref21_Fault.f k a0_0 l0_1 l1).bind fun t => if t = 0 then (if a2 < 0 then some ([], 2) else if a2 ≥ IntKind.i64.wrap (2 * (l0_1.length : Int)) then some ([], 2) else (tangramref21_Seen.f k a0_0 l0_1 l1 a2).bind fun u => some (u.1, 0)) else some ([], t)
theorem tangramref21_Rooted.mono : ∀ a0 a1 a2 a3 k, LeO (tangramref21_Rooted.f k a0 a1 a2 a3) (tangramref21_Rooted.f (k + 1) a0 a1 a2 a3) := fun _ _ _ _ _ =>
 LeO.bind (tangramref21_Fault.mono _ _ _ _) (fun _ => LeO.ite (LeO.ite (LeO.refl _) (LeO.ite (LeO.refl _) (LeO.bind (tangramref21_Seen.mono _ _ _ _ _) (fun _ => LeO.refl _)))) (LeO.refl _))
theorem tangramref21_Rooted.calls (k : Nat) (a0_0 : Int) (A0_1 : Option Addr) (c0_1 : Nat) (l0_1 : List (S89)) (A1 : Option Addr) (c1 : Nat) (l1 : List (List Int)) (a2 : Int) (r1 : List Int) (r2 : Int) (w : World) (hr0_1 : Kd.C k89 w A0_1 l0_1.length l0_1) (hc0_1 : l0_1.length ≤ c0_1) (hr1 : Kd.C (Kd.slice 3 (Kd.int .i64)) w A1 l1.length l1) (hc1 : l1.length ≤ c1) (h : tangramref21_Rooted.f k a0_0 l0_1 l1 a2 = some (r1, r2)) :
   Calls Try.prog 14 #[.agg #[.int .i64 a0_0, .slice A0_1 l0_1.length c0_1], .slice A1 l1.length c1, .int .i64 a2] w fun e w' => ∃ v0_ : Value, e = .returned (.tuple #[v0_, .int .i64 r2]) ∧ Kd.R (Kd.int .i64) 3 w' w.heap.size (fun _ => True) v0_ r1 ∧ Below w.heap.size w w' := by
 obtain ⟨e, ht, h⟩ := Option.bind_eq_some_iff.mp h
 refine One.refrooted_calls a0_0 A0_1 l0_1.length c0_1 _ a2 e w (fun W hW => tangramref21_Fault.calls k a0_0 A0_1 c0_1 l0_1 A1 c1 l1 e W (Kd.C_below hr0_1 hW) hc0_1 (Kd.C_below hr1 hW) hc1 ht) (r1, r2) (fun he => ?_) (fun he => ?_)
 · rw [if_neg he] at h
   exact (Option.some.inj h).symm
 · rw [if_pos he] at h
   refine ⟨fun h1 => ?_, fun h1 h2 => ?_, fun h1 h2 => ?_⟩
   · rw [if_pos h1] at h; exact (Option.some.inj h).symm
   · rw [if_neg (by omega), if_pos h2] at h; exact (Option.some.inj h).symm
   · rw [if_neg (by omega), if_neg (by omega)] at h
     obtain ⟨⟨cd, od⟩, hu, h⟩ := Option.bind_eq_some_iff.mp h
     obtain ⟨rfl, rfl⟩ : cd = r1 ∧ 0 = r2 := by simpa using h
     exact ⟨rfl, fun W hW => (tangramref21_Seen.calls k a0_0 A0_1 c0_1 l0_1 A1 c1 l1 a2 cd od W (Kd.C_below hr0_1 hW) hc0_1 (Kd.C_below hr1 hW) hc1 hu).mono fun _ _ ⟨v0, v1, q1, q2, _, q4⟩ => ⟨v0, v1, q1, Kd.R_mono q2 (fun _ _ => trivial), q4⟩⟩
end Go.Proofs.Yteeihjpnhjnknaa.GAll
namespace Go.Proofs.Yteeihjpnhjnknaa.GAll
open Go.RowKit Go.Proofs.YteeihjpnhjnknaaW.PrintWords Go.Proofs.YteeihjpnhjnknaaW.PrintLast Go.Proofs.YteeihjpnhjnknaaW.PrintMore
attribute [local go_sem] max2_int min2_int max_two min_two max_three min_three max_four min_four   -- for this text's walks alone
set_option linter.unusedVariables false
set_option linter.unusedSimpArgs false
def tangramref21_Code.f (k : Nat) (a0_0 : Int) (l0_1 : List S89) (l1 : List (List Int)) : Option (List Int × Int) := (tangramref21_Fault.f k a0_0 l0_1 l1).bind fun t => if t = 0 then (tangramref21_Best.f k a0_0 l0_1 l1).bind fun u => some (u.1, 0) else some ([], t)
theorem tangramref21_Code.mono : ∀ a0 a1 a2 k, LeO (tangramref21_Code.f k a0 a1 a2) (tangramref21_Code.f (k + 1) a0 a1 a2) := fun _ _ _ _ =>
 LeO.bind (tangramref21_Fault.mono _ _ _ _) (fun _ => LeO.ite (LeO.bind (tangramref21_Best.mono _ _ _ _) (fun _ => LeO.refl _)) (LeO.refl _))
theorem tangramref21_Code.calls (k : Nat) (a0_0 : Int) (A0_1 : Option Addr) (c0_1 : Nat) (l0_1 : List (S89)) (A1 : Option Addr) (c1 : Nat) (l1 : List (List Int)) (r1 : List Int) (r2 : Int) (w : World) (hr0_1 : Kd.C k89 w A0_1 l0_1.length l0_1) (hc0_1 : l0_1.length ≤ c0_1) (hr1 : Kd.C (Kd.slice 3 (Kd.int .i64)) w A1 l1.length l1) (hc1 : l1.length ≤ c1) (h : tangramref21_Code.f k a0_0 l0_1 l1 = some (r1, r2)) :
   Calls Try.prog 17 #[.agg #[.int .i64 a0_0, .slice A0_1 l0_1.length c0_1], .slice A1 l1.length c1] w fun e w' => ∃ v0_ : Value, e = .returned (.tuple #[v0_, .int .i64 r2]) ∧ Kd.R (Kd.int .i64) 3 w' w.heap.size (fun _ => True) v0_ r1 ∧ Below w.heap.size w w' := by
 obtain ⟨e, ht, h⟩ := Option.bind_eq_some_iff.mp h
 refine One.refcode_calls a0_0 A0_1 l0_1.length c0_1 _ e w (fun W hW => tangramref21_Fault.calls k a0_0 A0_1 c0_1 l0_1 A1 c1 l1 e W (Kd.C_below hr0_1 hW) hc0_1 (Kd.C_below hr1 hW) hc1 ht) (r1, r2) (fun he => ?_) (fun he => ?_)
 · rw [if_neg he] at h
   exact (Option.some.inj h).symm
 · rw [if_pos he] at h
   obtain ⟨⟨cd, x, j⟩, hu, h⟩ := Option.bind_eq_some_iff.mp h
   obtain ⟨rfl, rfl⟩ : cd = r1 ∧ 0 = r2 := by simpa using h
   exact ⟨rfl, j, x, fun W hW => (tangramref21_Best.calls k a0_0 A0_1 c0_1 l0_1 A1 c1 l1 cd x j W (Kd.C_below hr0_1 hW) hc0_1 (Kd.C_below hr1 hW) hc1 hu).mono fun _ _ ⟨v0, q1, q2, q4⟩ => ⟨v0, q1, Kd.R_mono q2 (fun _ _ => trivial), q4⟩⟩
end Go.Proofs.Yteeihjpnhjnknaa.GAll
namespace Go.Proofs.Yteeihjpnhjnknaa.GAll
open Go.RowKit Go.Proofs.YteeihjpnhjnknaaW.PrintWords Go.Proofs.YteeihjpnhjnknaaW.PrintLast Go.Proofs.YteeihjpnhjnknaaW.PrintMore
attribute [local go_sem] max2_int min2_int max_two min_two max_three min_three max_four min_four   -- for this text's walks alone
set_option linter.unusedVariables false
set_option linter.unusedSimpArgs false
def tangramref21_Match.out (n1 n2 : Int) (m n : List Int) : Option (List Int × Bool × Int) := if 0 ≤ n1 ∧ n1 ≤ 1048576 ∧ 0 ≤ n2 ∧ n2 ≤ 1048576 ∧ m.length = n1.toNat ∧ n.length = n2.toNat then some (One.putR m n n1.toNat n2.toNat n1.toNat, true, 0) else none
def tangramref21_Match.f (k : Nat) (a0_0 : Int) (l0_1 : List S89) (l1 : List (List Int)) (a2_0 : Int) (l2_1 : List S89) (l3 : List (List Int)) : Option (List Int × Bool × Int) :=
 (tangramref21_pairFault.f k a0_0 l0_1 l1 a2_0 l2_1 l3).bind fun e => if e = 0 then (tangramref21_Best.f k a0_0 l0_1 l1).bind fun a => (tangramref21_Best.f k a2_0 l2_1 l3).bind fun b => (tangramref03_SameInts.f k a.1 b.1).bind fun z =>
   if z = true then (tangramref21_Seen.f k a0_0 l0_1 l1 a.2.1).bind fun m => (tangramref21_Seen.f k a2_0 l2_1 l3 b.2.1).bind fun n => tangramref21_Match.out a0_0 a2_0 m.2 n.2 else some ([], false, 0) else some ([], false, e)
theorem tangramref21_Match.mono : ∀ a0 a1 a2 a3 a4 a5 k, LeO (tangramref21_Match.f k a0 a1 a2 a3 a4 a5) (tangramref21_Match.f (k + 1) a0 a1 a2 a3 a4 a5) := fun _ _ _ _ _ _ _ =>
 LeO.bind (tangramref21_pairFault.mono _ _ _ _ _ _ _) (fun _ => LeO.ite (LeO.bind (tangramref21_Best.mono _ _ _ _) (fun _ => LeO.bind (tangramref21_Best.mono _ _ _ _) (fun _ => LeO.bind (tangramref03_SameInts.mono _ _ _) (fun _ => LeO.ite (LeO.bind (tangramref21_Seen.mono _ _ _ _ _) (fun _ => LeO.bind (tangramref21_Seen.mono _ _ _ _ _) (fun _ => LeO.refl _))) (LeO.refl _))))) (LeO.refl _))
theorem tangramref21_Match.calls (k : Nat) (a0_0 : Int) (A0_1 : Option Addr) (c0_1 : Nat) (l0_1 : List (S89)) (A1 : Option Addr) (c1 : Nat) (l1 : List (List Int)) (a2_0 : Int) (A2_1 : Option Addr) (c2_1 : Nat) (l2_1 : List (S89)) (A3 : Option Addr) (c3 : Nat) (l3 : List (List Int)) (r1 : List Int) (r2 : Bool) (r3 : Int) (w : World) (hr0_1 : Kd.C k89 w A0_1 l0_1.length l0_1) (hc0_1 : l0_1.length ≤ c0_1) (hr1 : Kd.C (Kd.slice 3 (Kd.int .i64)) w A1 l1.length l1) (hc1 : l1.length ≤ c1) (hr2_1 : Kd.C k89 w A2_1 l2_1.length l2_1) (hc2_1 : l2_1.length ≤ c2_1) (hr3 : Kd.C (Kd.slice 3 (Kd.int .i64)) w A3 l3.length l3) (hc3 : l3.length ≤ c3) (h : tangramref21_Match.f k a0_0 l0_1 l1 a2_0 l2_1 l3 = some (r1, r2, r3)) :
   Calls Try.prog 21 #[.agg #[.int .i64 a0_0, .slice A0_1 l0_1.length c0_1], .slice A1 l1.length c1, .agg #[.int .i64 a2_0, .slice A2_1 l2_1.length c2_1], .slice A3 l3.length c3] w fun e w' => ∃ v0_ : Value, e = .returned (.tuple #[v0_, .bool r2, .int .i64 r3]) ∧ Kd.R (Kd.int .i64) 3 w' w.heap.size (fun _ => True) v0_ r1 ∧ Below w.heap.size w w' := by
 obtain ⟨e, he, h⟩ := Option.bind_eq_some_iff.mp h
 refine One.refmatch_calls a0_0 A0_1 l0_1.length c0_1 _ a2_0 A2_1 l2_1.length c2_1 _ e w (r1, r2, r3) (fun W hW => tangramref21_pairFault.calls k a0_0 A0_1 c0_1 l0_1 A1 c1 l1 a2_0 A2_1 c2_1 l2_1 A3 c3 l3 e W (Kd.C_below hr0_1 hW) hc0_1 (Kd.C_below hr1 hW) hc1 (Kd.C_below hr2_1 hW) hc2_1 (Kd.C_below hr3 hW) hc3 he) (fun e0 => ?_) (fun e0 => ?_)
 · rw [if_neg e0] at h; exact (Option.some.inj h).symm
 · rw [if_pos e0] at h
   obtain ⟨⟨a, x, p⟩, ha, h⟩ := Option.bind_eq_some_iff.mp h
   obtain ⟨⟨b, y, q⟩, hb, h⟩ := Option.bind_eq_some_iff.mp h
   obtain ⟨z, hz, h⟩ := Option.bind_eq_some_iff.mp h
   refine ⟨a, x, p, b, y, q, z, fun W hW => (tangramref21_Best.calls k a0_0 A0_1 c0_1 l0_1 A1 c1 l1 a x p W (Kd.C_below hr0_1 hW) hc0_1 (Kd.C_below hr1 hW) hc1 ha).mono fun _ _ ⟨v0, q1, q2, q4⟩ => ⟨v0, q1, Kd.R_mono q2 (fun _ _ => trivial), q4⟩, fun W hW => (tangramref21_Best.calls k a2_0 A2_1 c2_1 l2_1 A3 c3 l3 b y q W (Kd.C_below hr2_1 hW) hc2_1 (Kd.C_below hr3 hW) hc3 hb).mono fun _ _ ⟨v0, q1, q2, q4⟩ => ⟨v0, q1, Kd.R_mono q2 (fun _ _ => trivial), q4⟩, fun W A c B d s1 s2 s3 s4 => (tangramref03_SameInts.calls k A c a B d b z W s1 s2 s3 s4 hz).mono fun _ _ ⟨q1, q2⟩ => ⟨q1, q2.below⟩, fun e => ?_, fun e => ?_⟩
   · rw [if_neg (by rw [e]; decide)] at h; exact (Option.some.inj h).symm
   · rw [if_pos e] at h
     obtain ⟨⟨cm, m⟩, hm, h⟩ := Option.bind_eq_some_iff.mp h
     obtain ⟨⟨cn, n⟩, hn, h⟩ := Option.bind_eq_some_iff.mp h
     unfold tangramref21_Match.out at h
     by_cases hf : 0 ≤ a0_0 ∧ a0_0 ≤ 1048576 ∧ 0 ≤ a2_0 ∧ a2_0 ≤ 1048576 ∧ m.length = a0_0.toNat ∧ n.length = a2_0.toNat
     · rw [if_pos hf] at h
       exact ⟨m, n, fun W hW => (tangramref21_Seen.calls k a0_0 A0_1 c0_1 l0_1 A1 c1 l1 x cm m W (Kd.C_below hr0_1 hW) hc0_1 (Kd.C_below hr1 hW) hc1 hm).mono fun _ _ ⟨v0, v1, q1, _, q3, q4⟩ => ⟨v0, v1, q1, Kd.R_mono q3 (fun _ _ => trivial), q4⟩, fun W hW => (tangramref21_Seen.calls k a2_0 A2_1 c2_1 l2_1 A3 c3 l3 y cn n W (Kd.C_below hr2_1 hW) hc2_1 (Kd.C_below hr3 hW) hc3 hn).mono fun _ _ ⟨v0, v1, q1, _, q3, q4⟩ => ⟨v0, v1, q1, Kd.R_mono q3 (fun _ _ => trivial), q4⟩, a0_0.toNat, a2_0.toNat, by omega, by omega, by omega, by omega, hf.2.2.2.2.1, hf.2.2.2.2.2, (Option.some.inj h).symm⟩
     · rw [if_neg hf] at h; cases h
end Go.Proofs.Yteeihjpnhjnknaa.GAll
namespace Go.Proofs.Yteeihjpnhjnknaa.Own
open Go.Proofs.Yteeihjpnhjnknaa.Rot Go.RowKit Go.Proofs.YteeihjpnhjnknaaW.PrintWords Go.Proofs.YteeihjpnhjnknaaW.PrintLast Go.Proofs.YteeihjpnhjnknaaW.PrintMore Go.Proofs.Yteeihjpnhjnknaa.GAll Go.Proofs.Yteeihjpnhjnknaa.Mem Go.Proofs.Yteeihjpnhjnknaa.Mark
set_option linter.unusedVariables false
set_option linter.unusedSimpArgs false
set_option maxHeartbeats 4000000 in
set_option maxRecDepth 100000 in
theorem own_walk (k : Nat) (n : Int) (A : Option Addr) (c : Nat) (l : List Ed) (A1 : Option Addr) (c1 : Nat) (r : List (List Int)) (root : Int) (w : World) (hr : Kd.C k89 w A l.length l) (hc : l.length ≤ c) (hr1 : Kd.C (Kd.slice 3 (Kd.int .i64)) w A1 r.length r) (hc1 : r.length ≤ c1) (hrl : r.length * 24 ≤ 140737488351232) (hrr : ∀ j, j < r.length → (gl r j).length * 8 ≤ 140737488351232)
   (cg : tangramref03_Copy.f k n l = some (n, l)) {ra rc rm : List Int} {e1 e2 e3 e4 e5 e6 e7 q : Int} {z z2 : Bool} (h1 : canon_Rooted.f k n l r root = some (ra, e1)) (h2 : canon_Code.f k n l r = some (rc, e2)) (h3 : canon_Match.f k n l r n l r = some (rm, z, e3)) (h4 : canon_Turns.f k n l r = some (q, e4))
   (h5 : tangramref21_Rooted.f k n l r root = some (ra, e5)) (h6 : tangramref21_Code.f k n l r = some (rc, e6)) (h7 : tangramref21_Match.f k n l r n l r = some (rm, z2, e7)) (h8 : tangramref03_Equal.f k n l n l = some true) (h9 : ∀ j, j < r.length → tangramref03_SameInts.f k (gl r j) (gl r j) = some true) (h10 : tangramref03_SameInts.f k ra ra = some true) (h11 : tangramref03_SameInts.f k rc rc = some true) (h12 : tangramref03_SameInts.f k rm rm = some true)
   (ha : ra.length ≤ 9000000000000) (hcl : rc.length ≤ 9000000000000) (hml : rm.length ≤ 9000000000000) :
   Calls Try.prog 9 #[.agg #[.int .i64 n, .slice A l.length c], .slice A1 r.length c1, .int .i64 root] w fun e w' => e = .returned (.bool true) ∧ Below w.heap.size w w' := by
 have HX := Aside0.mk (heap_last w (.cells #[.int .i64 n, .slice A l.length c] 24 (0, 0)))
 have HB : Aside0 (Below w.heap.size w (w.alloc (.cells #[.int .i64 n, .slice A l.length c] 24 (0, 0)))) := ⟨(Below.refl _ _).alloc (Nat.le_refl _) _⟩
 have HRR := Aside0.mk hr
 have HR1 := Aside0.mk hr1
 have HCC := Aside0.mk hc
 have HCC1 := Aside0.mk hc1
 have HLEN := Aside0.mk hrr
 have HCG := Aside0.mk cg
 have H1 := Aside0.mk h1
 have H2 := Aside0.mk h2
 have H3 := Aside0.mk h3
 have H4 := Aside0.mk h4
 have H5 := Aside0.mk h5
 have H6 := Aside0.mk h6
 have H7 := Aside0.mk h7
 have H8 := Aside0.mk h8
 have H9 := Aside0.mk h9
 have H10 := Aside0.mk h10
 have H11 := Aside0.mk h11
 have H12 := Aside0.mk h12
 have HLA := Aside0.mk ha
 have HLC := Aside0.mk hcl
 have HLM := Aside0.mk hml
 clear hr hr1 hc hc1 hrr cg h1 h2 h3 h4 h5 h6 h7 h8 h9 h10 h11 h12 ha hcl hml
 go_enter Try.func9, Try.ntmps9
 go_wp2_with fail
 obtain ⟨b1, hb1⟩ : ∃ b1, b1 = w.heap.size := ⟨_, rfl⟩
 rw [← hb1] at HX ⊢
 have HBL := Aside0.mk hb1
 clear hb1
 refine (tangramlaw21_wakes.calls true _ rfl).mono ?_
 rintro e1 w1 ⟨rfl, hb⟩
 have HB1 := Aside0.mk (HB.out.trans (hb.mono HB.out.size))
 have HX1 := Aside0.mk ((hb.block _ (lt_of HX.out)).trans HX.out)
 clear hb HB HX
 go_wp2_with fail
 obtain ⟨B0, hB0⟩ : ∃ B0, B0 = w1.heap.size := ⟨_, rfl⟩
 have HW : Aside0 (∃ T : List (Nat × Nat), T.length = 0 ∧ Tab w1 B0 r T ∧ Kd.R (Kd.raw 1) 32 w1 B0 (fun k => True ∧ some k ≠ (Value.slice none 0 0).ownBlock) (.slice none 0 0) (vals r T 2) ∧ Kd.R (Kd.raw 1) 32 w1 B0 (fun k => True ∧ some k ≠ (Value.slice none 0 0).ownBlock) (.slice none 0 0) (vals r T 0)) :=
   ⟨[], rfl, Tab.nil _ _ _, Kd.R_nil _ _ _ _ _, Kd.R_nil _ _ _ _ _⟩
 have HBW : Aside0 (Below B0 w1 w1) := ⟨Below.refl _ _⟩
 have HB0 : Aside0 (w.heap.size ≤ B0 ∧ B0 = w1.heap.size) := ⟨by rw [hB0]; exact HB1.out.size, hB0⟩
 clear hB0
 go_loopw [7, 8, 9] (fun u v y wr => ∃ (j : Nat) (Ai Aw : Option Addr) (ci cw : Nat), u = .slice Ai j ci ∧ v = .slice Aw j cw ∧ y = .int .i64 (j : Int) ∧ j ≤ r.length ∧ Aside0 (∃ T : List (Nat × Nat), T.length = j ∧ Tab wr B0 r T ∧ Kd.R (Kd.raw 1) 32 wr B0 (fun k => True ∧ some k ≠ (Value.slice Ai j ci).ownBlock) (.slice Aw j cw) (vals r T 2) ∧ Kd.R (Kd.raw 1) 32 wr B0 (fun k => True ∧ some k ≠ (Value.slice Aw j cw).ownBlock) (.slice Ai j ci) (vals r T 0)) ∧ Aside0 (Below B0 w1 wr)) (fun _ _ y _ => r.length - (intOf y).toNat)
 case atStart => exact ⟨0, none, none, 0, 0, rfl, rfl, rfl, by omega, HW, HBW⟩
 case round =>
   clear HW HBW
   obtain ⟨j, Ai, Aw, ci, cw, rfl, rfl, rfl, hj, HW, HBW⟩ := hrel
   by_cases hlt : j < r.length
   · have hsz : B0 ≤ wr.heap.size := by have := HB0.out.2; have := HBW.out.size; omega
     have HSZ := Aside0.mk hsz
     have HRC : Aside0 (Kd.C KR wr A1 r.length r) := ⟨Kd.C_below HR1.out (HB1.out.trans (HBW.out.mono HB0.out.1))⟩
     obtain ⟨ad, D, cD, eA, hx0, hcD, hrow⟩ := row_at HRC.out hlt
     obtain ⟨row, hrw⟩ : ∃ row, row = gl r j := ⟨_, rfl⟩
     rw [← hrw] at hx0 hcD hrow
     have HRW := Aside0.mk hrw
     have hrl2 := HLEN.out j hlt
     rw [← hrw] at hrl2
     have HL2 := Aside0.mk hrl2
     subst eA
     have hb0 : Below wr.heap.size wr (wr.alloc (.cells #[] 3 (0, 0))) := (Below.refl _ _).alloc (Nat.le_refl _) _
     have HO : Aside0 (Kd.R (Kd.int .i64) 3 (wr.alloc (.cells #[] 3 (0, 0))) wr.heap.size (fun _ => True) (.slice (some ⟨wr.heap.size, 0, none⟩) 0 0) []) := ⟨Kd.R_of_own (World.ownsRow_lit (base := wr.heap.size) (size := 1) (e := 3) wr #[] 0 (Nat.le_refl _) (by unfold maxLen; omega) rfl) (fun _ _ => trivial)⟩
     have HL := Aside0.mk (Kd.C_below hrow hb0)
     have HB2 := Aside0.mk hb0
     have x0 := (hb0.cell (cell_lt hx0)).trans hx0
     have hzl : (([] : List Int).length + row.length) * 8 ≤ 140737488351232 := by simpa using hrl2
     clear hrow hx0 hb0 hrw hrl2
     go_wp2_with (at_builtin; go_loud (refine Kd.R_append_rows (Kd.int .i64) (Rr := (Kd.int .i64).K (wr.alloc (.cells #[] 3 (0, 0)))) (w0 := wr) (W := wr.alloc (.cells #[] 3 (0, 0))) wr.heap.size rfl _ _ 32 3 (.int .i64 0) 8 rfl Try.underlying32 info_int rfl (by decide) (by decide) (.slice (some ⟨wr.heap.size, 0, none⟩) 0 0) [] row D row.length cD (fun _ => True) (fun _ => False) rfl rfl HO.out HL.out (fun _ _ h => h) (fun _ h => h.elim) (fun _ _ => trivial) HB2.out HB2.out.size (by have := hzl; simp at this ⊢; omega) ?_))
     intro v1 w2 hR hb1 _ _
     obtain ⟨D1, d1, rfl, _, _⟩ := Kd.R_reads hR
     have hbl : Below w2.heap.size w2 (w2.alloc (.cells #[.int .i64 (-7), .int .i64 (-8)] 3 (0, 0))) := (Below.refl _ _).alloc (Nat.le_refl _) _
     have HO2 := Aside0.mk (Kd.R_below hR hbl)
     have HL3 := Aside0.mk (two_lit w2 wr.heap.size hb1.size (-7) (-8))
     have HB3 : Aside0 (Below wr.heap.size wr (w2.alloc (.cells #[.int .i64 (-7), .int .i64 (-8)] 3 (0, 0)))) := ⟨hb1.trans (hbl.mono hb1.size)⟩
     clear hR hb1 hbl HO HL HB2 x0 hzl
     go_wp2_with (at_builtin; go_loud (refine Kd.R_append_rows (Kd.int .i64) (Rr := (Kd.int .i64).K (w2.alloc (.cells #[.int .i64 (-7), .int .i64 (-8)] 3 (0, 0)))) (w0 := wr) (W := w2.alloc (.cells #[.int .i64 (-7), .int .i64 (-8)] 3 (0, 0))) wr.heap.size rfl _ _ 32 3 (.int .i64 0) 8 rfl Try.underlying32 info_int rfl (by decide) (by decide) (.slice D1 row.length d1) row [-7, -8] (some ⟨w2.heap.size, 0, none⟩) 2 2 (fun _ => True) (fun _ => False) rfl rfl HO2.out HL3.out (fun _ _ h => h) (fun _ h => h.elim) (fun _ _ => trivial) HB3.out HB3.out.size (by have := HL2.out; omega) ?_))
     intro v2 w3 hR hb3 _ _
     obtain ⟨g, c2, rfl, hg0, hg1, _⟩ := Kd.R_form hR (by simp)
     have hlen : (row ++ [-7, -8]).length = row.length + 2 := by simp
     rw [hlen] at hR
     have hcap : row.length ≤ c2 := by have := (Kd.R_reads' hR).2.1; omega
     rw [hlen]
     obtain ⟨T, hT, hTab, hWh, hIn⟩ := HW.out
     subst hT
     have hTab3 := hTab.below hb3
     have hWh3 := Kd.R_below hWh hb3
     have hIn3 := Kd.R_below hIn hb3
     have HTN : Aside0 (∀ i, i < T.length → (tb T i).1 < wr.heap.size) := ⟨fun i hi => (hTab.lt hi).2⟩
     have HB4 : Aside0 (Below B0 w1 w3) := ⟨HBW.out.trans (hb3.mono HSZ.out)⟩
     have HROW := Aside0.mk (Kd.R_lower hR HSZ.out)
     have HT3 := Aside0.mk hTab3
     have HW3 := Aside0.mk hWh3
     have HI3 := Aside0.mk hIn3
     have HG0 := Aside0.mk hg0
     have hs3 : B0 ≤ w3.heap.size := Nat.le_trans HSZ.out hb3.size
     have HS3 := Aside0.mk hs3
     have HCAP := Aside0.mk hcap
     clear hR hb3 hTab hWh hIn hTab3 hWh3 hIn3 hg0 hg1 hs3 hlen HO2 HL3 HB3 HW hcap hsz
     have HVL : Aside0 ((vals r T 2).length = T.length ∧ (vals r T 0).length = T.length) := ⟨vals_length _ _ _, vals_length _ _ _⟩
     have HFI : Aside0 (∀ q, w3.heap.size ≤ q → True ∧ some q ≠ (Value.slice Ai T.length ci).ownBlock) := ⟨fun q hq => ⟨trivial, fun e => by have := Kd.R_lt HI3.out q e.symm; omega⟩⟩
     go_wp2_with ((with_reducible refine gate_builtin (b := .append) (xs := #[.tmp 53, .tmp 55]) rfl ?_); at_builtin; refine Kd.R_append (Kd.raw 1) (w0 := w1) B0 rfl (.tmp 53) (.tmp 55) 25 32 (.slice none 0 0) 24 rfl Try.underlying25 info_ints rfl (by decide) (by omega) (.slice Aw T.length cw) (vals r T 2) [.slice (some ⟨g, 0, none⟩) (row.length + 2) c2] [.slice (some ⟨g, 0, none⟩) (row.length + 2) c2] (fun k => True ∧ some k ≠ (Value.slice Ai T.length ci).ownBlock) (fun _ => False) rfl rfl (raw_one _ rfl _ _ _) (fun _ hk => hk.elim) HFI.out HW3.out HB4.out HS3.out (by have := HVL.out.1; omega) ?_)
     intro v4 w4 hR4 hb4 hg4 hat4
     have hI4 := Kd.R_after (v := .slice Aw T.length cw) HI3.out hg4 hat4
     have hT4 := HT3.out.grown (v := .slice Aw T.length cw) (Kd.R_typed HW3.out) hg4
     have hR5 := Kd.R_over' (v := .slice Aw T.length cw) HROW.out (Kd.R_typed HW3.out) (by decide) hg4
     have HTB4 : Aside0 (Tab w4 B0 r (T ++ [(g, c2)])) := ⟨hT4.snoc HTN.out HG0.out (by rw [← HRW.out]; exact hR5)⟩
     have e4 : vals r T 2 ++ [[.slice (some ⟨g, 0, none⟩) (row.length + 2) c2]] = vals r (T ++ [(g, c2)]) 2 := by rw [vals_snoc, ← HRW.out]
     rw [e4] at hR4
     obtain ⟨Aw2, cw2, rfl⟩ := Kd.R_slice hR4
     rw [vals_length, List.length_append, List.length_singleton] at hR4 hI4
     rw [vals_length, List.length_append, List.length_singleton]
     have HW4 : Aside0 (Kd.R (Kd.raw 1) 32 w4 B0 (fun k => True ∧ some k ≠ (Value.slice Ai T.length ci).ownBlock) (.slice Aw2 (T.length + 1) cw2) (vals r (T ++ [(g, c2)]) 2)) := ⟨Kd.R_mono hR4 (fun k hk => ⟨trivial, fun e => by first | exact hk.2 e | exact hk e⟩)⟩
     have HI4 := Aside0.mk hI4
     have HB5 := Aside0.mk hb4
     have HS4 : Aside0 (B0 ≤ w4.heap.size) := ⟨Nat.le_trans HS3.out hg4.size⟩
     have HRC4 : Aside0 (Kd.C KR w4 (some ad) r.length r) := ⟨Kd.C_below HR1.out (HB1.out.trans (hb4.mono HB0.out.1))⟩
     have HFI4 : Aside0 (∀ q, w4.heap.size ≤ q → True ∧ some q ≠ (Value.slice Aw2 (T.length + 1) cw2).ownBlock) := ⟨fun q hq => ⟨trivial, fun e => by have := Kd.R_lt HW4.out q e.symm; omega⟩⟩
     clear hR4 hI4 hT4 hR5 hb4 hg4 hat4 e4 HFI HW3 HI3 HT3 HROW HB4 HS3 HTN HG0 HRC
     obtain ⟨_, D', cD', eA, hx0, hcD', _⟩ := row_at HRC4.out hlt
     injection eA with eA
     subst eA
     rw [← HRW.out] at hx0 hcD'
     have hcap := HCAP.out
     have q1 := slice_own g (row.length + 2) c2 row.length HCAP.out
     go_wp2_with ((with_reducible refine gate_builtin (b := .append) (xs := #[.tmp 57, .tmp 65]) rfl ?_); at_builtin; refine Kd.R_append (Kd.raw 1) (w0 := w1) B0 rfl (.tmp 57) (.tmp 65) 26 32 (.slice none 0 0) 24 rfl Try.underlying26 info_ints rfl (by decide) (by omega) (.slice Ai T.length ci) (vals r T 0) [.slice (some ⟨g, 0, none⟩) row.length c2] [.slice (some ⟨g, 0, none⟩) row.length c2] (fun k => True ∧ some k ≠ (Value.slice Aw2 (T.length + 1) cw2).ownBlock) (fun _ => False) rfl rfl (raw_one _ rfl _ _ _) (fun _ hk => hk.elim) HFI4.out HI4.out HB5.out HS4.out (by have := HVL.out.2; omega) ?_)
     intro v5 w5 hR5 hb5 hg5 hat5
     have hW5 := Kd.R_after (v := .slice Ai T.length ci) HW4.out hg5 hat5
     have hT5 := HTB4.out.grown (v := .slice Ai T.length ci) (Kd.R_typed HI4.out) hg5
     have e5 : vals r T 0 ++ [[.slice (some ⟨g, 0, none⟩) row.length c2]] = vals r (T ++ [(g, c2)]) 0 := by rw [vals_snoc, ← HRW.out]; rfl
     rw [e5] at hR5
     obtain ⟨Ai2, ci2, rfl⟩ := Kd.R_slice hR5
     rw [vals_length, List.length_append, List.length_singleton] at hR5 hW5
     rw [vals_length, List.length_append, List.length_singleton]
     have HNW : Aside0 (∃ T' : List (Nat × Nat), T'.length = T.length + 1 ∧ Tab w5 B0 r T' ∧ Kd.R (Kd.raw 1) 32 w5 B0 (fun k => True ∧ some k ≠ (Value.slice Ai2 (T.length + 1) ci2).ownBlock) (.slice Aw2 (T.length + 1) cw2) (vals r T' 2) ∧ Kd.R (Kd.raw 1) 32 w5 B0 (fun k => True ∧ some k ≠ (Value.slice Aw2 (T.length + 1) cw2).ownBlock) (.slice Ai2 (T.length + 1) ci2) (vals r T' 0)) := ⟨_, by simp, hT5, hW5, Kd.R_mono hR5 (fun k hk => ⟨trivial, fun e => by first | exact hk.2 e | exact hk e⟩)⟩
     have HNB := Aside0.mk hb5
     clear hR5 hW5 hT5 hb5 hg5 hat5 e5 HFI4 HI4 HW4 HTB4 HB5 HS4 HRC4 HVL hx0 hcD' q1 hcap
     go_wp2_with fail
     go_roundw
     case rel => exact ⟨T.length + 1, Ai2, Aw2, ci2, cw2, rfl, rfl, by go_num, by omega, HNW, HNB⟩
     case measure => simp [intOf]; omega
   · obtain rfl : j = r.length := by omega
     obtain ⟨T, hT, hTab, hWh, hIn⟩ := HW.out
     have hInC := hTab.reads hT (by rw [hT]; exact hIn)
     have HB := Aside0.mk (HB1.out.trans (HBW.out.mono HB0.out.1))
     have HX := Aside0.mk ((HBW.out.block _ (by rw [HB0.out.2]; exact lt_of HX1.out)).trans HX1.out)
     have HIN := Aside0.mk hInC.1
     have HINL := Aside0.mk hInC.2
     have HTT := Aside0.mk hT
     have HTAB := Aside0.mk hTab
     obtain ⟨S2, hS2⟩ : ∃ S2, S2 = wr.heap.size := ⟨_, rfl⟩
     have HS2 := Aside0.mk hS2
     have HWH : Aside0 (Kd.R (Kd.raw 1) 32 wr B0 (fun k => B0 ≤ k ∧ k < S2 ∧ ¬ InT T k) (.slice Aw r.length cw) (vals r T 2)) := ⟨by rw [hS2]; exact hTab.apart hWh⟩
     have HTS : Aside0 (∀ k, InT T k → B0 ≤ k ∧ k < S2) := ⟨fun k ⟨j, hj, e⟩ => by rw [e, hS2]; exact hTab.lt hj⟩
     have HGA := Aside0.mk (Kd.C_below HRR.out HB.out)
     have HRA := Aside0.mk (Kd.C_below HR1.out HB.out)
     have HBX : Aside0 (b1 < B0 ∧ B0 ≤ S2) := ⟨by rw [HB0.out.2]; exact lt_of HX1.out, by rw [hS2]; have := HBW.out.size; have := HB0.out.2; omega⟩
     clear hS2 hT hTab hWh hIn hInC HW HBW HB1 HX1 hj hlt
     have x0 : wr.cell? ⟨b1, 0, none⟩ = some (.int .i64 n) := heap_cell HX.out rfl
     have x1 : wr.cell? ⟨b1, 1, none⟩ = some (.slice A l.length c) := heap_cell HX.out rfl
     go_wp2_with fail
     clear x0 x1
     refine (tangramref03_Copy.calls k n A c l n l wr HGA.out HCC.out HCG.out).mono ?_
     rintro e' w3 ⟨vg, rfl, hR, hb⟩
     have HS3 : Aside0 (S2 ≤ w3.heap.size) := ⟨by rw [HS2.out]; exact hb.size⟩
     replace HB := Aside0.mk (HB.out.trans (hb.mono HB.out.size))
     replace HX := Aside0.mk ((hb.block _ (lt_of HX.out)).trans HX.out)
     replace HGA := Aside0.mk (Kd.C_below HGA.out hb)
     replace HRA := Aside0.mk (Kd.C_below HRA.out hb)
     (try replace HIN := Aside0.mk (Kd.C_below HIN.out hb))
     replace HTAB := Aside0.mk (HTAB.out.below hb)
     replace HWH := Aside0.mk (Kd.R_below HWH.out hb)
     (try replace HY := Aside0.mk ((hb.block _ (lt_of HY.out)).trans HY.out))
     (try replace HG := Aside0.mk (Kd.R_below HG.out hb))
     (try replace HV1 := Aside0.mk (HV1.out.below hb))
     (try replace HV2 := Aside0.mk (HV2.out.below hb))
     (try replace HV3 := Aside0.mk (HV3.out.below hb))
     (try replace HV4 := Aside0.mk (HV4.out.below hb))
     (try replace HV5 := Aside0.mk (HV5.out.below hb))
     (try replace HV6 := Aside0.mk (HV6.out.below hb))
     (try replace HU1 := Aside0.mk (HU1.out.below hb))
     (try replace HU2 := Aside0.mk (HU2.out.below hb))
     obtain ⟨Ag, cg, rfl⟩ := Kd.R_slice hR
     have HG := Aside0.mk (Kd.R_mono (Kd.R_bound hR) (fun k hk => (show S2 ≤ k ∧ k < w3.heap.size from ⟨by rw [HS2.out]; exact hk.2.1, hk.2.2.1⟩)))
     clear hb hR
     obtain ⟨w4, hw4⟩ : ∃ w4, w4 = w3.alloc (.cells #[.int .i64 n, .slice Ag l.length cg] 24 (0, 0)) := ⟨_, rfl⟩
     have hb : Below w3.heap.size w3 w4 := by rw [hw4]; exact (Below.refl _ _).alloc (Nat.le_refl _) _
     obtain ⟨bh, hbh⟩ : ∃ bh, bh = w3.heap.size := ⟨_, rfl⟩
     have HS4 : Aside0 (bh = w3.heap.size ∧ w3.heap.size < w4.heap.size) := ⟨hbh, by rw [hw4]; simp⟩
     have HY : Aside0 (w4.heap[bh]? = some (.cells #[.int .i64 n, .slice Ag l.length cg] 24 (0, 0))) := ⟨by rw [hw4, hbh]; exact heap_last _ _⟩
     replace HB := Aside0.mk (HB.out.trans (hb.mono HB.out.size))
     replace HX := Aside0.mk ((hb.block _ (lt_of HX.out)).trans HX.out)
     replace HGA := Aside0.mk (Kd.C_below HGA.out hb)
     replace HRA := Aside0.mk (Kd.C_below HRA.out hb)
     (try replace HIN := Aside0.mk (Kd.C_below HIN.out hb))
     replace HTAB := Aside0.mk (HTAB.out.below hb)
     replace HWH := Aside0.mk (Kd.R_below HWH.out hb)
     (try replace HY := Aside0.mk ((hb.block _ (lt_of HY.out)).trans HY.out))
     (try replace HG := Aside0.mk (Kd.R_below HG.out hb))
     (try replace HV1 := Aside0.mk (HV1.out.below hb))
     (try replace HV2 := Aside0.mk (HV2.out.below hb))
     (try replace HV3 := Aside0.mk (HV3.out.below hb))
     (try replace HV4 := Aside0.mk (HV4.out.below hb))
     (try replace HV5 := Aside0.mk (HV5.out.below hb))
     (try replace HV6 := Aside0.mk (HV6.out.below hb))
     (try replace HU1 := Aside0.mk (HU1.out.below hb))
     (try replace HU2 := Aside0.mk (HU2.out.below hb))
     clear hb
     go_upto_region 12 with (fail)
     rw [← hbh, ← hw4]
     clear hbh hw4
     have HGL : Aside0 (l.length ≤ cg) := ⟨(Kd.R_reads' HG.out).2.1⟩
     have y0 : w4.cell? ⟨bh, 0, none⟩ = some (.int .i64 n) := heap_cell HY.out rfl
     have y1 : w4.cell? ⟨bh, 1, none⟩ = some (.slice Ag l.length cg) := heap_cell HY.out rfl
     go_wp2_with fail
     clear y0 y1
     refine (canon_Rooted.calls k n Ag cg l Ai ci r root ra e1 w4 (Kd.R_reads' HG.out).2.2 HGL.out HIN.out HINL.out H1.out).mono ?_
     rintro e' w5 ⟨vv, rfl, hS, hb⟩
     have HS5 := Aside0.mk hb.size
     replace HB := Aside0.mk (HB.out.trans (hb.mono HB.out.size))
     replace HX := Aside0.mk ((hb.block _ (lt_of HX.out)).trans HX.out)
     replace HGA := Aside0.mk (Kd.C_below HGA.out hb)
     replace HRA := Aside0.mk (Kd.C_below HRA.out hb)
     (try replace HIN := Aside0.mk (Kd.C_below HIN.out hb))
     replace HTAB := Aside0.mk (HTAB.out.below hb)
     replace HWH := Aside0.mk (Kd.R_below HWH.out hb)
     (try replace HY := Aside0.mk ((hb.block _ (lt_of HY.out)).trans HY.out))
     (try replace HG := Aside0.mk (Kd.R_below HG.out hb))
     (try replace HV1 := Aside0.mk (HV1.out.below hb))
     (try replace HV2 := Aside0.mk (HV2.out.below hb))
     (try replace HV3 := Aside0.mk (HV3.out.below hb))
     (try replace HV4 := Aside0.mk (HV4.out.below hb))
     (try replace HV5 := Aside0.mk (HV5.out.below hb))
     (try replace HV6 := Aside0.mk (HV6.out.below hb))
     (try replace HU1 := Aside0.mk (HU1.out.below hb))
     (try replace HU2 := Aside0.mk (HU2.out.below hb))
     obtain ⟨Aa, ca, rfl⟩ := Kd.R_slice hS
     have HV1 := Aside0.mk (Lst.of hS)
     clear hb hS
     have y0 : w5.cell? ⟨bh, 0, none⟩ = some (.int .i64 n) := heap_cell HY.out rfl
     have y1 : w5.cell? ⟨bh, 1, none⟩ = some (.slice Ag l.length cg) := heap_cell HY.out rfl
     go_wp2_with fail
     clear y0 y1
     refine (canon_Rooted.calls k n Ag cg l Ai ci r root ra e1 w5 (Kd.R_reads' HG.out).2.2 HGL.out HIN.out HINL.out H1.out).mono ?_
     rintro e' w6 ⟨vv, rfl, hS, hb⟩
     have HS6 := Aside0.mk hb.size
     replace HB := Aside0.mk (HB.out.trans (hb.mono HB.out.size))
     replace HX := Aside0.mk ((hb.block _ (lt_of HX.out)).trans HX.out)
     replace HGA := Aside0.mk (Kd.C_below HGA.out hb)
     replace HRA := Aside0.mk (Kd.C_below HRA.out hb)
     (try replace HIN := Aside0.mk (Kd.C_below HIN.out hb))
     replace HTAB := Aside0.mk (HTAB.out.below hb)
     replace HWH := Aside0.mk (Kd.R_below HWH.out hb)
     (try replace HY := Aside0.mk ((hb.block _ (lt_of HY.out)).trans HY.out))
     (try replace HG := Aside0.mk (Kd.R_below HG.out hb))
     (try replace HV1 := Aside0.mk (HV1.out.below hb))
     (try replace HV2 := Aside0.mk (HV2.out.below hb))
     (try replace HV3 := Aside0.mk (HV3.out.below hb))
     (try replace HV4 := Aside0.mk (HV4.out.below hb))
     (try replace HV5 := Aside0.mk (HV5.out.below hb))
     (try replace HV6 := Aside0.mk (HV6.out.below hb))
     (try replace HU1 := Aside0.mk (HU1.out.below hb))
     (try replace HU2 := Aside0.mk (HU2.out.below hb))
     obtain ⟨Ab, cb, rfl⟩ := Kd.R_slice hS
     have HV2 := Aside0.mk (Lst.of hS)
     clear hb hS
     have y0 : w6.cell? ⟨bh, 0, none⟩ = some (.int .i64 n) := heap_cell HY.out rfl
     have y1 : w6.cell? ⟨bh, 1, none⟩ = some (.slice Ag l.length cg) := heap_cell HY.out rfl
     go_wp2_with fail
     clear y0 y1
     refine (canon_Code.calls k n Ag cg l Ai ci r rc e2 w6 (Kd.R_reads' HG.out).2.2 HGL.out HIN.out HINL.out H2.out).mono ?_
     rintro e' w7 ⟨vv, rfl, hS, hb⟩
     have HS7 := Aside0.mk hb.size
     replace HB := Aside0.mk (HB.out.trans (hb.mono HB.out.size))
     replace HX := Aside0.mk ((hb.block _ (lt_of HX.out)).trans HX.out)
     replace HGA := Aside0.mk (Kd.C_below HGA.out hb)
     replace HRA := Aside0.mk (Kd.C_below HRA.out hb)
     (try replace HIN := Aside0.mk (Kd.C_below HIN.out hb))
     replace HTAB := Aside0.mk (HTAB.out.below hb)
     replace HWH := Aside0.mk (Kd.R_below HWH.out hb)
     (try replace HY := Aside0.mk ((hb.block _ (lt_of HY.out)).trans HY.out))
     (try replace HG := Aside0.mk (Kd.R_below HG.out hb))
     (try replace HV1 := Aside0.mk (HV1.out.below hb))
     (try replace HV2 := Aside0.mk (HV2.out.below hb))
     (try replace HV3 := Aside0.mk (HV3.out.below hb))
     (try replace HV4 := Aside0.mk (HV4.out.below hb))
     (try replace HV5 := Aside0.mk (HV5.out.below hb))
     (try replace HV6 := Aside0.mk (HV6.out.below hb))
     (try replace HU1 := Aside0.mk (HU1.out.below hb))
     (try replace HU2 := Aside0.mk (HU2.out.below hb))
     obtain ⟨Ac, cc, rfl⟩ := Kd.R_slice hS
     have HV3 := Aside0.mk (Lst.of hS)
     clear hb hS
     have y0 : w7.cell? ⟨bh, 0, none⟩ = some (.int .i64 n) := heap_cell HY.out rfl
     have y1 : w7.cell? ⟨bh, 1, none⟩ = some (.slice Ag l.length cg) := heap_cell HY.out rfl
     go_wp2_with fail
     clear y0 y1
     refine (canon_Code.calls k n Ag cg l Ai ci r rc e2 w7 (Kd.R_reads' HG.out).2.2 HGL.out HIN.out HINL.out H2.out).mono ?_
     rintro e' w8 ⟨vv, rfl, hS, hb⟩
     have HS8 := Aside0.mk hb.size
     replace HB := Aside0.mk (HB.out.trans (hb.mono HB.out.size))
     replace HX := Aside0.mk ((hb.block _ (lt_of HX.out)).trans HX.out)
     replace HGA := Aside0.mk (Kd.C_below HGA.out hb)
     replace HRA := Aside0.mk (Kd.C_below HRA.out hb)
     (try replace HIN := Aside0.mk (Kd.C_below HIN.out hb))
     replace HTAB := Aside0.mk (HTAB.out.below hb)
     replace HWH := Aside0.mk (Kd.R_below HWH.out hb)
     (try replace HY := Aside0.mk ((hb.block _ (lt_of HY.out)).trans HY.out))
     (try replace HG := Aside0.mk (Kd.R_below HG.out hb))
     (try replace HV1 := Aside0.mk (HV1.out.below hb))
     (try replace HV2 := Aside0.mk (HV2.out.below hb))
     (try replace HV3 := Aside0.mk (HV3.out.below hb))
     (try replace HV4 := Aside0.mk (HV4.out.below hb))
     (try replace HV5 := Aside0.mk (HV5.out.below hb))
     (try replace HV6 := Aside0.mk (HV6.out.below hb))
     (try replace HU1 := Aside0.mk (HU1.out.below hb))
     (try replace HU2 := Aside0.mk (HU2.out.below hb))
     obtain ⟨Ad, cd, rfl⟩ := Kd.R_slice hS
     have HV4 := Aside0.mk (Lst.of hS)
     clear hb hS
     have y0 : w8.cell? ⟨bh, 0, none⟩ = some (.int .i64 n) := heap_cell HY.out rfl
     have y1 : w8.cell? ⟨bh, 1, none⟩ = some (.slice Ag l.length cg) := heap_cell HY.out rfl
     go_wp2_with fail
     clear y0 y1
     refine (canon_Match.calls k n Ag cg l Ai ci r n Ag cg l Ai ci r rm z e3 w8 (Kd.R_reads' HG.out).2.2 HGL.out HIN.out HINL.out (Kd.R_reads' HG.out).2.2 HGL.out HIN.out HINL.out H3.out).mono ?_
     rintro e' w9 ⟨vv, rfl, hS, hb⟩
     have HS9 := Aside0.mk hb.size
     replace HB := Aside0.mk (HB.out.trans (hb.mono HB.out.size))
     replace HX := Aside0.mk ((hb.block _ (lt_of HX.out)).trans HX.out)
     replace HGA := Aside0.mk (Kd.C_below HGA.out hb)
     replace HRA := Aside0.mk (Kd.C_below HRA.out hb)
     (try replace HIN := Aside0.mk (Kd.C_below HIN.out hb))
     replace HTAB := Aside0.mk (HTAB.out.below hb)
     replace HWH := Aside0.mk (Kd.R_below HWH.out hb)
     (try replace HY := Aside0.mk ((hb.block _ (lt_of HY.out)).trans HY.out))
     (try replace HG := Aside0.mk (Kd.R_below HG.out hb))
     (try replace HV1 := Aside0.mk (HV1.out.below hb))
     (try replace HV2 := Aside0.mk (HV2.out.below hb))
     (try replace HV3 := Aside0.mk (HV3.out.below hb))
     (try replace HV4 := Aside0.mk (HV4.out.below hb))
     (try replace HV5 := Aside0.mk (HV5.out.below hb))
     (try replace HV6 := Aside0.mk (HV6.out.below hb))
     (try replace HU1 := Aside0.mk (HU1.out.below hb))
     (try replace HU2 := Aside0.mk (HU2.out.below hb))
     obtain ⟨Am, cm, rfl⟩ := Kd.R_slice hS
     have HV5 := Aside0.mk (Lst.of hS)
     clear hb hS
     have y0 : w9.cell? ⟨bh, 0, none⟩ = some (.int .i64 n) := heap_cell HY.out rfl
     have y1 : w9.cell? ⟨bh, 1, none⟩ = some (.slice Ag l.length cg) := heap_cell HY.out rfl
     go_wp2_with fail
     clear y0 y1
     refine (canon_Match.calls k n Ag cg l Ai ci r n Ag cg l Ai ci r rm z e3 w9 (Kd.R_reads' HG.out).2.2 HGL.out HIN.out HINL.out (Kd.R_reads' HG.out).2.2 HGL.out HIN.out HINL.out H3.out).mono ?_
     rintro e' w10 ⟨vv, rfl, hS, hb⟩
     have HS10 := Aside0.mk hb.size
     replace HB := Aside0.mk (HB.out.trans (hb.mono HB.out.size))
     replace HX := Aside0.mk ((hb.block _ (lt_of HX.out)).trans HX.out)
     replace HGA := Aside0.mk (Kd.C_below HGA.out hb)
     replace HRA := Aside0.mk (Kd.C_below HRA.out hb)
     (try replace HIN := Aside0.mk (Kd.C_below HIN.out hb))
     replace HTAB := Aside0.mk (HTAB.out.below hb)
     replace HWH := Aside0.mk (Kd.R_below HWH.out hb)
     (try replace HY := Aside0.mk ((hb.block _ (lt_of HY.out)).trans HY.out))
     (try replace HG := Aside0.mk (Kd.R_below HG.out hb))
     (try replace HV1 := Aside0.mk (HV1.out.below hb))
     (try replace HV2 := Aside0.mk (HV2.out.below hb))
     (try replace HV3 := Aside0.mk (HV3.out.below hb))
     (try replace HV4 := Aside0.mk (HV4.out.below hb))
     (try replace HV5 := Aside0.mk (HV5.out.below hb))
     (try replace HV6 := Aside0.mk (HV6.out.below hb))
     (try replace HU1 := Aside0.mk (HU1.out.below hb))
     (try replace HU2 := Aside0.mk (HU2.out.below hb))
     obtain ⟨Aq, cq, rfl⟩ := Kd.R_slice hS
     have HV6 := Aside0.mk (Lst.of hS)
     clear hb hS
     have y0 : w10.cell? ⟨bh, 0, none⟩ = some (.int .i64 n) := heap_cell HY.out rfl
     have y1 : w10.cell? ⟨bh, 1, none⟩ = some (.slice Ag l.length cg) := heap_cell HY.out rfl
     go_wp2_with fail
     clear y0 y1
     refine (canon_Turns.calls k n Ag cg l Ai ci r q e4 w10 (Kd.R_reads' HG.out).2.2 HGL.out HIN.out HINL.out H4.out).mono ?_
     rintro e' w11 ⟨rfl, hb⟩
     have HS11 := Aside0.mk hb.size
     replace HB := Aside0.mk (HB.out.trans (hb.mono HB.out.size))
     replace HX := Aside0.mk ((hb.block _ (lt_of HX.out)).trans HX.out)
     replace HGA := Aside0.mk (Kd.C_below HGA.out hb)
     replace HRA := Aside0.mk (Kd.C_below HRA.out hb)
     (try replace HIN := Aside0.mk (Kd.C_below HIN.out hb))
     replace HTAB := Aside0.mk (HTAB.out.below hb)
     replace HWH := Aside0.mk (Kd.R_below HWH.out hb)
     (try replace HY := Aside0.mk ((hb.block _ (lt_of HY.out)).trans HY.out))
     (try replace HG := Aside0.mk (Kd.R_below HG.out hb))
     (try replace HV1 := Aside0.mk (HV1.out.below hb))
     (try replace HV2 := Aside0.mk (HV2.out.below hb))
     (try replace HV3 := Aside0.mk (HV3.out.below hb))
     (try replace HV4 := Aside0.mk (HV4.out.below hb))
     (try replace HV5 := Aside0.mk (HV5.out.below hb))
     (try replace HV6 := Aside0.mk (HV6.out.below hb))
     (try replace HU1 := Aside0.mk (HU1.out.below hb))
     (try replace HU2 := Aside0.mk (HU2.out.below hb))
     clear hb
     clear HIN HINL
     go_wp2_with fail
     have HE : Aside0 (Below w11.heap.size w11 w11) := ⟨Below.refl _ _⟩
     go_loopw [26] (fun y ws => ∃ (j : Nat), y = .int .i64 (j : Int) ∧ j ≤ r.length ∧ Aside0 (Below w11.heap.size w11 ws)) (fun y _ => r.length - (intOf y).toNat)
     case atStart => exact ⟨0, rfl, by omega, HE⟩
     case round =>
       clear HE
       obtain ⟨j, rfl, hj, HE⟩ := hrel
       by_cases hlt : j < r.length
       · obtain ⟨ad, D, cD, eA, hx0, hcD, hrow⟩ := row_at (Kd.C_below HRA.out HE.out) hlt
         have hjT : j < T.length := by rw [HTT.out]; exact hlt
         obtain ⟨adw, eW, hx1⟩ := whole_at HWH.out hjT
         replace hx1 := (HE.out.cell (cell_lt hx1)).trans hx1
         obtain ⟨f2, f3, f4⟩ := row_full (HTAB.out.below HE.out) hjT
         obtain ⟨row, hrw⟩ : ∃ row, row = gl r j := ⟨_, rfl⟩
         obtain ⟨g, hg⟩ : ∃ g, g = (tb T j).1 := ⟨_, rfl⟩
         obtain ⟨ct, hct⟩ : ∃ ct, ct = (tb T j).2 := ⟨_, rfl⟩
         unfold sl at hx1
         rw [← hrw] at hx0 hcD hrow hx1 f2 f3 f4
         rw [← hg, ← hct] at hx1
         rw [← hg] at f3 f4
         rw [← hct] at f2
         have hrl2 := HLEN.out j hlt
         rw [← hrw] at hrl2
         subst eA eW
         obtain ⟨L, hL⟩ : ∃ L, L = row.length := ⟨_, rfl⟩
         have q1 := slice_own g (row.length + 2) ct row.length (by omega)
         have z1 := Kd.C_at2 f3 row.length (by omega)
         have z2 := Kd.C_at2 f3 (row.length + 1) (by omega)
         rw [(gi_end row (-7) (-8)).1] at z1
         rw [(gi_end row (-7) (-8)).2] at z2
         have Q1 : Aside0 (∀ n, Calls Try.prog 15 #[.slice (some ⟨g, 0, none⟩) row.length ct, .slice D row.length cD] (wr.drewN n) fun e w' => e = .returned (.bool true) ∧ ∃ m, w' = (wr.drewN n).drewN m) := ⟨fun n => by
           have h := tangramref03_SameInts.calls k (some ⟨g, 0, none⟩) ct row D cD row true (wr.drewN n) (Kd.C_below f4 (pw_below_drewN (Below.refl _ _) n)) (by omega) (Kd.C_below hrow (pw_below_drewN (Below.refl _ _) n)) hcD (by rw [hrw]; exact H9.out j hlt)
           exact h.mono fun _ _ ⟨h1, ⟨h2⟩⟩ => ⟨h1, h2⟩⟩
         obtain ⟨L1, hL1⟩ : ∃ L1, L1 = row.length + 1 := ⟨_, rfl⟩
         rw [← hL1] at z2
         have r1 : IntKind.i64.wrap ((row.length : Int) + 1) = (L1 : Int) := by rw [IntWalk.i64_in _ (by omega)]; omega
         have r2 : ((L1 : Int)).toNat = L1 := Int.toNat_natCast _
         have hlen1 : row.length < row.length + 2 := by omega
         have hlen2 : L1 < row.length + 2 := by omega
         have hcap : row.length ≤ ct := by omega
         have HTW : Aside0 (j < T.length) := ⟨hjT⟩
         have hjr : j < r.length := hlt
         clear hcD hrow hjT f3 f4 hrw hg hct hL hL1 f2
         go_wp2_with fail
         go_quiet ((go_at_call 15; exact Calls.quiet_of (Q1.out _)))
         go_wp2_with fail
         clear hx0 hx1 q1 z1 z2 r1 r2 hlen1 hlen2 hcap
         go_roundw
         case rel => exact ⟨j + 1, by go_num, by omega, ⟨ValH.below_drewN HE.out _⟩⟩
         case measure => simp [intOf]; omega
       · obtain rfl : j = r.length := by omega
         have hb := HE.out
         have HS12 : Aside0 (w11.heap.size ≤ wr.heap.size) := ⟨hb.size⟩
         replace HB := Aside0.mk (HB.out.trans (hb.mono HB.out.size))
         replace HX := Aside0.mk ((hb.block _ (lt_of HX.out)).trans HX.out)
         replace HGA := Aside0.mk (Kd.C_below HGA.out hb)
         replace HRA := Aside0.mk (Kd.C_below HRA.out hb)
         (try replace HIN := Aside0.mk (Kd.C_below HIN.out hb))
         replace HTAB := Aside0.mk (HTAB.out.below hb)
         replace HWH := Aside0.mk (Kd.R_below HWH.out hb)
         (try replace HY := Aside0.mk ((hb.block _ (lt_of HY.out)).trans HY.out))
         (try replace HG := Aside0.mk (Kd.R_below HG.out hb))
         (try replace HV1 := Aside0.mk (HV1.out.below hb))
         (try replace HV2 := Aside0.mk (HV2.out.below hb))
         (try replace HV3 := Aside0.mk (HV3.out.below hb))
         (try replace HV4 := Aside0.mk (HV4.out.below hb))
         (try replace HV5 := Aside0.mk (HV5.out.below hb))
         (try replace HV6 := Aside0.mk (HV6.out.below hb))
         (try replace HU1 := Aside0.mk (HU1.out.below hb))
         (try replace HU2 := Aside0.mk (HU2.out.below hb))
         clear hb HE
         have x0 : wr.cell? ⟨b1, 0, none⟩ = some (.int .i64 n) := heap_cell HX.out rfl
         have x1 : wr.cell? ⟨b1, 1, none⟩ = some (.slice A l.length c) := heap_cell HX.out rfl
         go_wp2_with fail
         clear x0 x1
         refine (tangramref21_Rooted.calls k n A c l A1 c1 r root ra e5 wr HGA.out HCC.out HRA.out HCC1.out H5.out).mono ?_
         rintro e' w13 ⟨vv, rfl, hS, hb⟩
         have HS13 := Aside0.mk hb.size
         replace HB := Aside0.mk (HB.out.trans (hb.mono HB.out.size))
         replace HX := Aside0.mk ((hb.block _ (lt_of HX.out)).trans HX.out)
         replace HGA := Aside0.mk (Kd.C_below HGA.out hb)
         replace HRA := Aside0.mk (Kd.C_below HRA.out hb)
         (try replace HIN := Aside0.mk (Kd.C_below HIN.out hb))
         replace HTAB := Aside0.mk (HTAB.out.below hb)
         replace HWH := Aside0.mk (Kd.R_below HWH.out hb)
         (try replace HY := Aside0.mk ((hb.block _ (lt_of HY.out)).trans HY.out))
         (try replace HG := Aside0.mk (Kd.R_below HG.out hb))
         (try replace HV1 := Aside0.mk (HV1.out.below hb))
         (try replace HV2 := Aside0.mk (HV2.out.below hb))
         (try replace HV3 := Aside0.mk (HV3.out.below hb))
         (try replace HV4 := Aside0.mk (HV4.out.below hb))
         (try replace HV5 := Aside0.mk (HV5.out.below hb))
         (try replace HV6 := Aside0.mk (HV6.out.below hb))
         (try replace HU1 := Aside0.mk (HU1.out.below hb))
         (try replace HU2 := Aside0.mk (HU2.out.below hb))
         obtain ⟨Ea, da, rfl⟩ := Kd.R_slice hS
         have HU1 := Aside0.mk (Lst.of hS)
         clear hb hS
         have x0 : w13.cell? ⟨b1, 0, none⟩ = some (.int .i64 n) := heap_cell HX.out rfl
         have x1 : w13.cell? ⟨b1, 1, none⟩ = some (.slice A l.length c) := heap_cell HX.out rfl
         go_wp2_with fail
         clear x0 x1
         refine (tangramref21_Code.calls k n A c l A1 c1 r rc e6 w13 HGA.out HCC.out HRA.out HCC1.out H6.out).mono ?_
         rintro e' w14 ⟨vv, rfl, hS, hb⟩
         have HS14 := Aside0.mk hb.size
         replace HB := Aside0.mk (HB.out.trans (hb.mono HB.out.size))
         replace HX := Aside0.mk ((hb.block _ (lt_of HX.out)).trans HX.out)
         replace HGA := Aside0.mk (Kd.C_below HGA.out hb)
         replace HRA := Aside0.mk (Kd.C_below HRA.out hb)
         (try replace HIN := Aside0.mk (Kd.C_below HIN.out hb))
         replace HTAB := Aside0.mk (HTAB.out.below hb)
         replace HWH := Aside0.mk (Kd.R_below HWH.out hb)
         (try replace HY := Aside0.mk ((hb.block _ (lt_of HY.out)).trans HY.out))
         (try replace HG := Aside0.mk (Kd.R_below HG.out hb))
         (try replace HV1 := Aside0.mk (HV1.out.below hb))
         (try replace HV2 := Aside0.mk (HV2.out.below hb))
         (try replace HV3 := Aside0.mk (HV3.out.below hb))
         (try replace HV4 := Aside0.mk (HV4.out.below hb))
         (try replace HV5 := Aside0.mk (HV5.out.below hb))
         (try replace HV6 := Aside0.mk (HV6.out.below hb))
         (try replace HU1 := Aside0.mk (HU1.out.below hb))
         (try replace HU2 := Aside0.mk (HU2.out.below hb))
         obtain ⟨Ec, dc, rfl⟩ := Kd.R_slice hS
         have HU2 := Aside0.mk (Lst.of hS)
         clear hb hS
         have x0 : w14.cell? ⟨b1, 0, none⟩ = some (.int .i64 n) := heap_cell HX.out rfl
         have x1 : w14.cell? ⟨b1, 1, none⟩ = some (.slice A l.length c) := heap_cell HX.out rfl
         go_wp2_with fail
         clear x0 x1
         refine (tangramref21_Match.calls k n A c l A1 c1 r n A c l A1 c1 r rm z2 e7 w14 HGA.out HCC.out HRA.out HCC1.out HGA.out HCC.out HRA.out HCC1.out H7.out).mono ?_
         rintro e' w15 ⟨vv, rfl, hS, hb⟩
         have HS15 := Aside0.mk hb.size
         replace HB := Aside0.mk (HB.out.trans (hb.mono HB.out.size))
         replace HX := Aside0.mk ((hb.block _ (lt_of HX.out)).trans HX.out)
         replace HGA := Aside0.mk (Kd.C_below HGA.out hb)
         replace HRA := Aside0.mk (Kd.C_below HRA.out hb)
         (try replace HIN := Aside0.mk (Kd.C_below HIN.out hb))
         replace HTAB := Aside0.mk (HTAB.out.below hb)
         replace HWH := Aside0.mk (Kd.R_below HWH.out hb)
         (try replace HY := Aside0.mk ((hb.block _ (lt_of HY.out)).trans HY.out))
         (try replace HG := Aside0.mk (Kd.R_below HG.out hb))
         (try replace HV1 := Aside0.mk (HV1.out.below hb))
         (try replace HV2 := Aside0.mk (HV2.out.below hb))
         (try replace HV3 := Aside0.mk (HV3.out.below hb))
         (try replace HV4 := Aside0.mk (HV4.out.below hb))
         (try replace HV5 := Aside0.mk (HV5.out.below hb))
         (try replace HV6 := Aside0.mk (HV6.out.below hb))
         (try replace HU1 := Aside0.mk (HU1.out.below hb))
         (try replace HU2 := Aside0.mk (HU2.out.below hb))
         obtain ⟨Em, dm, rfl⟩ := Kd.R_slice hS
         have HU3 := Aside0.mk (Lst.of hS)
         clear hb hS
         have HSZ : Aside0 (w.heap.size ≤ B0 ∧ b1 < B0 ∧ B0 ≤ S2 ∧ S2 ≤ w3.heap.size ∧ bh = w3.heap.size ∧ w3.heap.size < w4.heap.size ∧ w4.heap.size ≤ w5.heap.size ∧ w5.heap.size ≤ w6.heap.size ∧ w6.heap.size ≤ w7.heap.size ∧ w7.heap.size ≤ w8.heap.size ∧ w8.heap.size ≤ w9.heap.size ∧ w9.heap.size ≤ w10.heap.size ∧ w10.heap.size ≤ w11.heap.size ∧ w11.heap.size ≤ wr.heap.size ∧ wr.heap.size ≤ w13.heap.size ∧ w13.heap.size ≤ w14.heap.size ∧ w14.heap.size ≤ w15.heap.size) :=
           ⟨HB0.out.1, HBX.out.1, HBX.out.2, HS3.out, HS4.out.1, HS4.out.2, HS5.out, HS6.out, HS7.out, HS8.out, HS9.out, HS10.out, HS11.out, HS12.out, HS13.out, HS14.out, HS15.out⟩
         have HRT := Aside0.mk HTAB.out.rowsT
         have HRISE := Aside0.mk HTAB.out.rise
         clear HTAB HGA HRA HS2 HS3 HS4 HS5 HS6 HS7 HS8 HS9 HS10 HS11 HS12 HS13 HS14 HS15 HB0 HBX
         go_wp2_with fail
         refine (mark_calls Aa ca ra (-1) w15 w4.heap.size HV1.out.own (by have := HSZ.out; omega) (by omega) (by omega) HLA.out).mono ?_
         rintro e' w16 ⟨rfl, hF⟩
         have hm := fun k (hk : Mine Aa k) => HV1.out.mine hk
         have HS16 := Aside0.mk hF.size
         have hz := HSZ.out
         replace HB := Aside0.mk (HB.out.trans (hF.below HB.out.size (fun k hk => by have := hm k hk; omega)))
         replace HX := Aside0.mk (hF.blk HX.out (fun hk => by have := hm _ hk; omega))
         replace HY := Aside0.mk (hF.blk HY.out (fun hk => by have := hm _ hk; omega))
         replace HG := Aside0.mk (Kd.R_step HG.out (fun k hk hlt => hF.block k hlt (fun q => by have := hm k q; omega)))
         replace HV2 := Aside0.mk (HV2.out.frame hF (fun k a b q => by have := hm k q; omega))
         replace HV4 := Aside0.mk (HV4.out.frame hF (fun k a b q => by have := hm k q; omega))
         replace HV6 := Aside0.mk (HV6.out.frame hF (fun k a b q => by have := hm k q; omega))
         replace HU1 := Aside0.mk (HU1.out.frame hF (fun k a b q => by have := hm k q; omega))
         replace HU2 := Aside0.mk (HU2.out.frame hF (fun k a b q => by have := hm k q; omega))
         replace HU3 := Aside0.mk (HU3.out.frame hF (fun k a b q => by have := hm k q; omega))
         replace HWH := Aside0.mk (Kd.R_step HWH.out (fun k hk hlt => hF.block k hlt (fun q => by have := hm k q; omega)))
         replace HRT := Aside0.mk (HRT.out.frame hF (fun k hk q => by have := HTS.out k hk; have := hm k q; omega))
         (try replace HV3 := Aside0.mk (HV3.out.frame hF (fun k a b q => by have := hm k q; omega)))
         (try replace HV5 := Aside0.mk (HV5.out.frame hF (fun k a b q => by have := hm k q; omega)))
         clear hF hm hz
         clear HV1
         go_wp2_with fail
         refine (mark_calls Ac cc rc (-2) w16 w6.heap.size HV3.out.own (by have := HSZ.out; have := HS16.out; omega) (by omega) (by omega) HLC.out).mono ?_
         rintro e' w17 ⟨rfl, hF⟩
         have hm := fun k (hk : Mine Ac k) => HV3.out.mine hk
         have HS17 := Aside0.mk hF.size
         have hz := HSZ.out
         replace HB := Aside0.mk (HB.out.trans (hF.below HB.out.size (fun k hk => by have := hm k hk; omega)))
         replace HX := Aside0.mk (hF.blk HX.out (fun hk => by have := hm _ hk; omega))
         replace HY := Aside0.mk (hF.blk HY.out (fun hk => by have := hm _ hk; omega))
         replace HG := Aside0.mk (Kd.R_step HG.out (fun k hk hlt => hF.block k hlt (fun q => by have := hm k q; omega)))
         replace HV2 := Aside0.mk (HV2.out.frame hF (fun k a b q => by have := hm k q; omega))
         replace HV4 := Aside0.mk (HV4.out.frame hF (fun k a b q => by have := hm k q; omega))
         replace HV6 := Aside0.mk (HV6.out.frame hF (fun k a b q => by have := hm k q; omega))
         replace HU1 := Aside0.mk (HU1.out.frame hF (fun k a b q => by have := hm k q; omega))
         replace HU2 := Aside0.mk (HU2.out.frame hF (fun k a b q => by have := hm k q; omega))
         replace HU3 := Aside0.mk (HU3.out.frame hF (fun k a b q => by have := hm k q; omega))
         replace HWH := Aside0.mk (Kd.R_step HWH.out (fun k hk hlt => hF.block k hlt (fun q => by have := hm k q; omega)))
         replace HRT := Aside0.mk (HRT.out.frame hF (fun k hk q => by have := HTS.out k hk; have := hm k q; omega))
         (try replace HV3 := Aside0.mk (HV3.out.frame hF (fun k a b q => by have := hm k q; omega)))
         (try replace HV5 := Aside0.mk (HV5.out.frame hF (fun k a b q => by have := hm k q; omega)))
         clear hF hm hz
         clear HV3
         go_wp2_with fail
         refine (mark_calls Am cm rm (-3) w17 w8.heap.size HV5.out.own (by have := HSZ.out; have := HS16.out; have := HS17.out; omega) (by omega) (by omega) HLM.out).mono ?_
         rintro e' w18 ⟨rfl, hF⟩
         have hm := fun k (hk : Mine Am k) => HV5.out.mine hk
         have HS18 := Aside0.mk hF.size
         have hz := HSZ.out
         replace HB := Aside0.mk (HB.out.trans (hF.below HB.out.size (fun k hk => by have := hm k hk; omega)))
         replace HX := Aside0.mk (hF.blk HX.out (fun hk => by have := hm _ hk; omega))
         replace HY := Aside0.mk (hF.blk HY.out (fun hk => by have := hm _ hk; omega))
         replace HG := Aside0.mk (Kd.R_step HG.out (fun k hk hlt => hF.block k hlt (fun q => by have := hm k q; omega)))
         replace HV2 := Aside0.mk (HV2.out.frame hF (fun k a b q => by have := hm k q; omega))
         replace HV4 := Aside0.mk (HV4.out.frame hF (fun k a b q => by have := hm k q; omega))
         replace HV6 := Aside0.mk (HV6.out.frame hF (fun k a b q => by have := hm k q; omega))
         replace HU1 := Aside0.mk (HU1.out.frame hF (fun k a b q => by have := hm k q; omega))
         replace HU2 := Aside0.mk (HU2.out.frame hF (fun k a b q => by have := hm k q; omega))
         replace HU3 := Aside0.mk (HU3.out.frame hF (fun k a b q => by have := hm k q; omega))
         replace HWH := Aside0.mk (Kd.R_step HWH.out (fun k hk hlt => hF.block k hlt (fun q => by have := hm k q; omega)))
         replace HRT := Aside0.mk (HRT.out.frame hF (fun k hk q => by have := HTS.out k hk; have := hm k q; omega))
         (try replace HV3 := Aside0.mk (HV3.out.frame hF (fun k a b q => by have := hm k q; omega)))
         (try replace HV5 := Aside0.mk (HV5.out.frame hF (fun k a b q => by have := hm k q; omega)))
         clear hF hm hz
         clear HV5
         go_wp2_with fail
         have HF : Aside0 (Mem.Frame (InT T) w18 w18) := ⟨Mem.Frame.refl _ _⟩
         go_loopw [190] (fun y ws => ∃ (j : Nat), y = .int .i64 (j : Int) ∧ j ≤ r.length ∧ Aside0 (Mem.Frame (InT T) w18 ws) ∧ Aside0 (RowsT ws B0 r T)) (fun y _ => r.length - (intOf y).toNat)
         case atStart => exact ⟨0, rfl, by omega, HF, HRT⟩
         case round =>
           clear HF HRT
           obtain ⟨j, rfl, hj, HF, HRT⟩ := hrel
           by_cases hlt : j < r.length
           · have hjT : j < T.length := by rw [HTT.out]; exact hlt
             obtain ⟨adw, eW, hx1⟩ := whole_at HWH.out hjT
             subst eW
             obtain ⟨gw, rfl⟩ := Kd.R_head HWH.out
             rw [add_plain] at hx1
             have hni := (HWH.out.1 gw rfl).2.2
             obtain ⟨g, hg⟩ : ∃ g, g = (tb T j).1 := ⟨_, rfl⟩
             obtain ⟨ct, hct⟩ : ∃ ct, ct = (tb T j).2 := ⟨_, rfl⟩
             obtain ⟨L, hL⟩ : ∃ L, L = (gl r j).length + 2 := ⟨_, rfl⟩
             unfold sl at hx1
             rw [← hg, ← hct, ← hL] at hx1
             have HCW : Aside0 (∀ wz, Mem.Frame (InT T) w18 wz → wz.cell? ⟨gw, j, none⟩ = some (.slice (some ⟨g, 0, none⟩) L ct)) := ⟨fun wz f => (World.cell?_of_block (f.block _ (cell_lt hx1) hni)).trans hx1⟩
             have HLL : Aside0 (L = (gl r j).length + 2 ∧ g = (tb T j).1 ∧ j < T.length) := ⟨hL, hg, hjT⟩
             have hLb : L ≤ 20000000000000 := by have := HLEN.out j hlt; omega
             have hx := HCW.out wr HF.out
             clear hx1 hni hg hct hL hjT
             go_wp2_with fail
             clear hx
             go_loopw [198] (fun y ws => ∃ (i : Nat), y = .int .i64 (i : Int) ∧ i ≤ L ∧ Aside0 (Mem.Frame (InT T) w18 ws) ∧ Aside0 (RowsT ws B0 r T)) (fun y _ => L - (intOf y).toNat)
             case atStart => exact ⟨0, rfl, by omega, HF, HRT⟩
             case round =>
               clear HF HRT
               obtain ⟨i, rfl, hi, HF, HRT⟩ := hrel
               by_cases hil : i < L
               · have hx := HCW.out wr HF.out
                 obtain ⟨h1, ⟨y0, z0⟩, f0⟩ := HRT.out.put HRISE.out (i := i) HLL.out.2.2 (by have := HLL.out.1; omega) (-4)
                 have HF2 := Aside0.mk (HF.out.setCell (p := ⟨(tb T j).1, i, none⟩) ⟨j, HLL.out.2.2, rfl⟩ (.int .i64 (-4)))
                 rw [← HLL.out.2.1] at h1 z0 f0
                 have HRT2 := Aside0.mk h1
                 rw [← HLL.out.2.1] at HF2
                 clear h1 HF HRT
                 go_wp2_with fail
                 clear hx z0 f0
                 go_roundw
                 case rel => exact ⟨i + 1, by go_num, by omega, HF2, HRT2⟩
                 case measure => simp [intOf]; omega
               · obtain rfl : i = L := by omega
                 go_wp2_with fail
                 go_roundw
                 case rel => exact ⟨j + 1, by go_num, by omega, HF, HRT⟩
                 case measure => simp [intOf]; omega
           · obtain rfl : j = r.length := by omega
             have hF := HF.out
             have hm := fun k (hk : InT T k) => HTS.out k hk
             have hz := HSZ.out
             replace HB := Aside0.mk (HB.out.trans (hF.below HB.out.size (fun k hk => by have := hm k hk; omega)))
             replace HX := Aside0.mk (hF.blk HX.out (fun hk => by have := hm _ hk; omega))
             replace HY := Aside0.mk (hF.blk HY.out (fun hk => by have := hm _ hk; omega))
             replace HG := Aside0.mk (Kd.R_step HG.out (fun k hk hlt => hF.block k hlt (fun q => by have := hm k q; omega)))
             replace HV2 := Aside0.mk (HV2.out.frame hF (fun k a b q => by have := hm k q; omega))
             replace HV4 := Aside0.mk (HV4.out.frame hF (fun k a b q => by have := hm k q; omega))
             replace HV6 := Aside0.mk (HV6.out.frame hF (fun k a b q => by have := hm k q; omega))
             replace HU1 := Aside0.mk (HU1.out.frame hF (fun k a b q => by have := hm k q; omega))
             replace HU2 := Aside0.mk (HU2.out.frame hF (fun k a b q => by have := hm k q; omega))
             replace HU3 := Aside0.mk (HU3.out.frame hF (fun k a b q => by have := hm k q; omega))
             clear hF hm hz HF HRT
             have x0 : wr.cell? ⟨b1, 0, none⟩ = some (.int .i64 n) := heap_cell HX.out rfl
             have x1 : wr.cell? ⟨b1, 1, none⟩ = some (.slice A l.length c) := heap_cell HX.out rfl
             have y0 : wr.cell? ⟨bh, 0, none⟩ = some (.int .i64 n) := heap_cell HY.out rfl
             have y1 : wr.cell? ⟨bh, 1, none⟩ = some (.slice Ag l.length cg) := heap_cell HY.out rfl
             go_wp2_with fail
             clear y0 y1
             clear x0 x1
             refine (tangramref03_Equal.calls k n Ag cg l n A c l true wr (Kd.R_reads' HG.out).2.2 HGL.out (Kd.C_below HRR.out HB.out) HCC.out H8.out).mono ?_
             rintro e' w20 ⟨rfl, hd⟩
             have hb := hd
             replace HB := Aside0.mk (HB.out.trans (hb.mono HB.out.size))
             replace HV2 := Aside0.mk (HV2.out.below hb)
             replace HV4 := Aside0.mk (HV4.out.below hb)
             replace HV6 := Aside0.mk (HV6.out.below hb)
             replace HU1 := Aside0.mk (HU1.out.below hb)
             replace HU2 := Aside0.mk (HU2.out.below hb)
             replace HU3 := Aside0.mk (HU3.out.below hb)
             clear hb hd
             go_wp2_with fail
             refine (tangramref03_SameInts.calls k Ab cb ra Ea da ra true w20 HV2.out.reads.1 HV2.out.reads.2 HU1.out.reads.1 HU1.out.reads.2 H10.out).mono ?_
             rintro e' w21 ⟨rfl, hd⟩
             have hb := hd.below
             replace HB := Aside0.mk (HB.out.trans (hb.mono HB.out.size))
             replace HV2 := Aside0.mk (HV2.out.below hb)
             replace HV4 := Aside0.mk (HV4.out.below hb)
             replace HV6 := Aside0.mk (HV6.out.below hb)
             replace HU1 := Aside0.mk (HU1.out.below hb)
             replace HU2 := Aside0.mk (HU2.out.below hb)
             replace HU3 := Aside0.mk (HU3.out.below hb)
             clear hb hd
             go_wp2_with fail
             refine (tangramref03_SameInts.calls k Ad cd rc Ec dc rc true w21 HV4.out.reads.1 HV4.out.reads.2 HU2.out.reads.1 HU2.out.reads.2 H11.out).mono ?_
             rintro e' w22 ⟨rfl, hd⟩
             have hb := hd.below
             replace HB := Aside0.mk (HB.out.trans (hb.mono HB.out.size))
             replace HV2 := Aside0.mk (HV2.out.below hb)
             replace HV4 := Aside0.mk (HV4.out.below hb)
             replace HV6 := Aside0.mk (HV6.out.below hb)
             replace HU1 := Aside0.mk (HU1.out.below hb)
             replace HU2 := Aside0.mk (HU2.out.below hb)
             replace HU3 := Aside0.mk (HU3.out.below hb)
             clear hb hd
             go_wp2_with fail
             refine (tangramref03_SameInts.calls k Aq cq rm Em dm rm true w22 HV6.out.reads.1 HV6.out.reads.2 HU3.out.reads.1 HU3.out.reads.2 H12.out).mono ?_
             rintro e' w23 ⟨rfl, hd⟩
             have hb := hd.below
             replace HB := Aside0.mk (HB.out.trans (hb.mono HB.out.size))
             replace HV2 := Aside0.mk (HV2.out.below hb)
             replace HV4 := Aside0.mk (HV4.out.below hb)
             replace HV6 := Aside0.mk (HV6.out.below hb)
             replace HU1 := Aside0.mk (HU1.out.below hb)
             replace HU2 := Aside0.mk (HU2.out.below hb)
             replace HU3 := Aside0.mk (HU3.out.below hb)
             clear hb hd
             go_wp2_with fail
             go_ret
             exact ⟨by simp, HB.out⟩
end Go.Proofs.Yteeihjpnhjnknaa.Own
namespace Go.Proofs.Yteeihjpnhjnknaa.Rot
open Go.RowKit Go.Proofs.YteeihjpnhjnknaaW.PrintWords Go.Proofs.YteeihjpnhjnknaaW.PrintLast Go.Proofs.YteeihjpnhjnknaaW.PrintMore Go.Proofs.Yteeihjpnhjnknaa.GAll Go.Proofs.Yteeihjpnhjnknaa.Mem Go.Proofs.Yteeihjpnhjnknaa.Seen
set_option linter.unusedVariables false
set_option linter.unusedSimpArgs false
def ltB : List Int → List Int → Bool
 | [], [] => false
 | [], _ :: _ => true
 | _ :: _, [] => false
 | a :: x, b :: y => if a = b then ltB x y else decide (a < b)
theorem ltB_self : ∀ x, ltB x x = false
 | [] => rfl
 | a :: x => by unfold ltB; rw [if_pos rfl]; exact ltB_self x
theorem ltB_eq : ∀ x y, ltB x y = false → ltB y x = false → x = y
 | [], [], _, _ => rfl
 | [], _ :: _, h, _ => by simp [ltB] at h
 | _ :: _, [], _, h => by simp [ltB] at h
 | a :: x, b :: y, h1, h2 => by
   unfold ltB at h1 h2
   by_cases e : a = b
   · rw [if_pos e] at h1
     rw [if_pos e.symm] at h2
     rw [e, ltB_eq x y h1 h2]
   · rw [if_neg e] at h1
     rw [if_neg (fun q => e q.symm)] at h2
     have := of_decide_eq_false h1
     have := of_decide_eq_false h2
     omega
theorem ltB_nil (b : List Int) : ltB [] b = decide (0 < b.length) := by
 cases b
 · rfl
 · simp [ltB]
theorem less_ev {a b : List Int} (ha : a.length ≤ 9000000000000000) : Ev (fun k => canon_less_int.f k a b) (ltB a b) := by
 have loop : ∀ (d i : Nat), i + d = a.length → i ≤ b.length → Ev (fun k => canon_less_int.l0 k a b (a.length : Int) (i : Int)) (ltB (a.drop i) (b.drop i)) := by
   intro d
   induction d with
   | zero =>
     intro i hi hb
     rw [List.drop_of_length_le (show a.length ≤ i by omega), ltB_nil, List.length_drop]
     refine Ev.step (f := fun _ => some (decide (0 < b.length - i))) (fun k => ?_) (Ev.now _)
     simp only [canon_less_int.l0]
     rw [if_neg (by omega)]
     congr 1
     rw [decide_eq_decide]
     omega
   | succ d ih =>
     intro i hi hb
     have hx : i < a.length := by omega
     by_cases hy : i < b.length
     · rw [List.drop_eq_getElem_cons hx, List.drop_eq_getElem_cons hy]
       unfold ltB
       by_cases e : a[i] = b[i]
       · rw [if_pos e]
         refine Ev.step (fun k => ?_) (ih (i + 1) (by omega) (by omega))
         simp only [canon_less_int.l0]
         rw [if_pos (by omega), if_neg (by omega), if_pos (by omega), if_pos (by omega), if_pos (by omega), gi_rd, gi_rd, gi_get hx, gi_get hy, if_pos e, w1 (by omega)]
       · rw [if_neg e]
         refine Ev.step (f := fun _ => some (decide (a[i] < b[i]))) (fun k => ?_) (Ev.now _)
         simp only [canon_less_int.l0]
         rw [if_pos (by omega), if_neg (by omega), if_pos (by omega), if_pos (by omega), if_pos (by omega), gi_rd, gi_rd, gi_get hx, gi_get hy, if_neg e]
     · rw [List.drop_eq_getElem_cons hx, List.drop_of_length_le (show b.length ≤ i by omega)]
       refine Ev.step (f := fun _ => some false) (fun k => ?_) (Ev.now _)
       simp only [canon_less_int.l0]
       rw [if_pos (by omega), if_pos (by omega)]
 exact loop a.length 0 (by omega) (by omega)
theorem refless_ev {a b : List Int} (ha : a.length ≤ 9000000000000000) : Ev (fun k => tangramref21_Less.f k a b) (ltB a b) := by
 have loop : ∀ (d i : Nat), i + d = a.length → i ≤ b.length → Ev (fun k => tangramref21_Less.l0 k a b (i : Int)) (ltB (a.drop i) (b.drop i)) := by
   intro d
   induction d with
   | zero =>
     intro i hi hb
     rw [List.drop_of_length_le (show a.length ≤ i by omega), ltB_nil, List.length_drop]
     refine Ev.step (f := fun k => tangramref21_Less.j1 k a b (i : Int) false) (fun k => ?_) (Ev.step (f := fun _ => some (decide (0 < b.length - i))) (fun k => ?_) (Ev.now _))
     · simp only [tangramref21_Less.l0]
       rw [if_neg (by omega)]
     · simp only [tangramref21_Less.j1]
       rw [if_neg (by decide)]
       congr 1
       rw [decide_eq_decide]
       omega
   | succ d ih =>
     intro i hi hb
     have hx : i < a.length := by omega
     refine Ev.step (f := fun k => tangramref21_Less.j1 k a b (i : Int) (decide ((i : Int) < (b.length : Int)))) (fun k => ?_) ?_
     · simp only [tangramref21_Less.l0]
       rw [if_pos (by omega)]
     by_cases hy : i < b.length
     · rw [List.drop_eq_getElem_cons hx, List.drop_eq_getElem_cons hy, decide_eq_true (show (i : Int) < (b.length : Int) by omega)]
       unfold ltB
       by_cases e : a[i] = b[i]
       · rw [if_pos e]
         refine Ev.step (fun k => ?_) (ih (i + 1) (by omega) (by omega))
         simp only [tangramref21_Less.j1]
         rw [if_pos trivial, if_pos (by omega), if_pos (by omega), if_pos (by omega), gi_rd, gi_rd, gi_get hx, gi_get hy, if_pos e, w1 (by omega)]
       · rw [if_neg e]
         refine Ev.step (f := fun _ => some (decide (a[i] < b[i]))) (fun k => ?_) (Ev.now _)
         simp only [tangramref21_Less.j1]
         rw [if_pos trivial, if_pos (by omega), if_pos (by omega), if_pos (by omega), gi_rd, gi_rd, gi_get hx, gi_get hy, if_neg e]
     · rw [List.drop_eq_getElem_cons hx, List.drop_of_length_le (show b.length ≤ i by omega), decide_eq_false (show ¬ (i : Int) < (b.length : Int) by omega)]
       refine Ev.step (f := fun _ => some false) (fun k => ?_) (Ev.now _)
       simp only [tangramref21_Less.j1]
       rw [if_neg (by decide)]
       congr 1
       exact decide_eq_false (by omega)
 exact loop a.length 0 (by omega) (by omega)
end Go.Proofs.Yteeihjpnhjnknaa.Rot
namespace Go.Proofs.Yteeihjpnhjnknaa.Rot
open Go.RowKit Go.Proofs.YteeihjpnhjnknaaW.PrintWords Go.Proofs.YteeihjpnhjnknaaW.PrintLast Go.Proofs.YteeihjpnhjnknaaW.PrintMore Go.Proofs.Yteeihjpnhjnknaa.GAll Go.Proofs.Yteeihjpnhjnknaa.Mem Go.Proofs.Yteeihjpnhjnknaa.Seen
set_option linter.unusedVariables false
set_option linter.unusedSimpArgs false
def bst (C : Nat → List Int) : Nat → Nat × Nat
 | 0 => (0, 1)
 | j + 1 => if ltB (C (j + 1)) (C (bst C j).1) = true then (j + 1, 1) else if ltB (C (bst C j).1) (C (j + 1)) = true then bst C j else ((bst C j).1, (bst C j).2 + 1)
theorem bst_le (C : Nat → List Int) : ∀ j, (bst C j).1 ≤ j ∧ (bst C j).2 ≤ j + 1
 | 0 => ⟨Nat.le_refl _, Nat.le_refl _⟩
 | j + 1 => by
   have := bst_le C j
   unfold bst
   split
   · exact ⟨Nat.le_refl _, by simp⟩
   · split
     · omega
     · simp only; omega
section
variable {n : Nat} {l : List Ed} {r : List (List Int)}
abbrev codes (n : Nat) (l : List Ed) (r : List (List Int)) (h : Nat) : List Int := (seenOf n l r h).cd
abbrev bestOf (n : Nat) (l : List Ed) (r : List (List Int)) : Nat × Nat := bst (codes n l r) (2 * l.length - 1)
theorem best_loop (h : IsMap n l r) (d : Nat) : ∀ j, j + 1 + d = 2 * l.length → ∀ b c, bst (codes n l r) j = (b, c) →
   Ev (fun k => canon_plane_best.l0 k (codes n l r b) (seenOf n l r b).ord (c : Int) ((j + 1 : Nat) : Int) (n : Int) (nxOf l r) (toOf l)) (codes n l r (bestOf n l r).1, (seenOf n l r (bestOf n l r).1).ord, ((bestOf n l r).2 : Int)) := by
 have hlen := h.len
 have hll := h.good.2.2.1
 induction d with
 | zero =>
   intro j hj b c hb
   have e : bestOf n l r = (b, c) := by rw [← hb]; unfold bestOf; congr 1; omega
   rw [e]
   refine Ev.step (f := fun _ => some _) (fun k => ?_) (Ev.now _)
   simp only [canon_plane_best.l0]
   rw [if_neg (by rw [hlen]; omega)]
 | succ d ih =>
   intro j hj b c hb
   have hle := bst_le (codes n l r) j
   rw [hb] at hle
   simp only at hle
   have hs : bst (codes n l r) (j + 1) = if ltB (codes n l r (j + 1)) (codes n l r b) = true then (j + 1, 1) else if ltB (codes n l r b) (codes n l r (j + 1)) = true then (b, c) else (b, c + 1) := by
     rw [bst, hb]
   have hI := ih (j + 1) (by omega)
   have c1 := code_ev h (root := j + 1) (by omega)
   have l1 := less_ev (a := codes n l r (j + 1)) (b := codes n l r b) (seen_cd h _)
   have l2 := less_ev (a := codes n l r b) (b := codes n l r (j + 1)) (seen_cd h _)
   refine Ev.step (f := fun k => (canon_plane_code.f k (n : Int) (nxOf l r) (toOf l) ((j + 1 : Nat) : Int)).bind fun bt => (canon_less_int.f k bt.1 (codes n l r b)).bind fun t => if t = true then canon_plane_best.l0 k bt.1 bt.2 ((1 : Nat) : Int) ((j + 1 + 1 : Nat) : Int) (n : Int) (nxOf l r) (toOf l) else (canon_less_int.f k (codes n l r b) bt.1).bind fun t2 => if t2 = true then canon_plane_best.l0 k (codes n l r b) (seenOf n l r b).ord (c : Int) ((j + 1 + 1 : Nat) : Int) (n : Int) (nxOf l r) (toOf l) else canon_plane_best.l0 k (codes n l r b) (seenOf n l r b).ord ((c + 1 : Nat) : Int) ((j + 1 + 1 : Nat) : Int) (n : Int) (nxOf l r) (toOf l)) (fun k => ?_) ?_
   · simp only [canon_plane_best.l0]
     rw [if_pos (by rw [hlen]; omega), w1 (i := j + 1) (by omega), w1 (i := c) (by omega)]
     rfl
   · refine Ev.bind c1 (Ev.bind l1 ?_)
     by_cases q1 : ltB (codes n l r (j + 1)) (codes n l r b) = true
     · rw [if_pos q1] at hs
       exact Ev.congr (fun k => if_pos q1) (hI _ _ hs)
     · rw [if_neg q1] at hs
       refine Ev.congr (fun k => if_neg q1) (Ev.bind l2 ?_)
       by_cases q2 : ltB (codes n l r b) (codes n l r (j + 1)) = true
       · rw [if_pos q2] at hs
         exact Ev.congr (fun k => if_pos q2) (hI _ _ hs)
       · rw [if_neg q2] at hs
         exact Ev.congr (fun k => if_neg q2) (hI _ _ hs)
theorem best_ev (h : IsMap n l r) (h0 : 0 < l.length) : Ev (fun k => canon_plane_best.f k (n : Int) (nxOf l r) (toOf l)) (codes n l r (bestOf n l r).1, (seenOf n l r (bestOf n l r).1).ord, ((bestOf n l r).2 : Int)) := by
 unfold canon_plane_best.f
 exact Ev.bind (code_ev h (root := 0) (by omega)) (best_loop h (2 * l.length - 1) 0 (by omega) 0 1 rfl)
theorem refbest_loop (h : IsMap n l r) (hc : Ev (fun k => tangramref11_Check.f k (n : Int) l r) (0, 0)) (d : Nat) : ∀ j, j + 1 + d = 2 * l.length → ∀ b c, bst (codes n l r) j = (b, c) →
   Ev (fun k => tangramref21_Best.l0 (n : Int) l r k (codes n l r b) (b : Int) (c : Int) (j + 1)) (codes n l r (bestOf n l r).1, ((bestOf n l r).1 : Int), ((bestOf n l r).2 : Int)) := by
 have hll := h.good.2.2.1
 induction d with
 | zero =>
   intro j hj b c hb
   have e : bestOf n l r = (b, c) := by rw [← hb]; unfold bestOf; congr 1; omega
   rw [e]
   refine Ev.step (f := fun _ => some _) (fun k => ?_) (Ev.now _)
   rw [tangramref21_Best.l0, if_neg (by omega)]
 | succ d ih =>
   intro j hj b c hb
   have hle := bst_le (codes n l r) j
   rw [hb] at hle
   simp only at hle
   have hs : bst (codes n l r) (j + 1) = if ltB (codes n l r (j + 1)) (codes n l r b) = true then (j + 1, 1) else if ltB (codes n l r b) (codes n l r (j + 1)) = true then (b, c) else (b, c + 1) := by
     rw [bst, hb]
   have hI := ih (j + 1) (by omega)
   have c1 := seen_ev h hc (root := j + 1) (by omega)
   have l1 := ints_ev (a := codes n l r (j + 1)) (b := codes n l r b) (seen_cd h _)
   have l2 := refless_ev (a := codes n l r (j + 1)) (b := codes n l r b) (seen_cd h _)
   have hw : IntKind.i64.wrap ((c : Int) + 1) = ((c + 1 : Nat) : Int) := by rw [IntWalk.i64_in _ (by omega)]; omega
   refine Ev.step (f := fun k => (tangramref21_Seen.f k (n : Int) l r ((j + 1 : Nat) : Int)).bind fun u => (tangramref03_SameInts.f k u.1 (codes n l r b)).bind fun s => (tangramref21_Less.f k u.1 (codes n l r b)).bind fun x =>
     if x = true then tangramref21_Best.l0 (n : Int) l r k u.1 ((j + 1 : Nat) : Int) ((1 : Nat) : Int) (j + 1 + 1) else if s = true then tangramref21_Best.l0 (n : Int) l r k (codes n l r b) (b : Int) ((c + 1 : Nat) : Int) (j + 1 + 1) else tangramref21_Best.l0 (n : Int) l r k (codes n l r b) (b : Int) (c : Int) (j + 1 + 1)) (fun k => ?_) ?_
   · rw [tangramref21_Best.l0, if_pos (by omega), hw]
     rfl
   · refine Ev.bind c1 (Ev.bind l1 (Ev.bind l2 ?_))
     by_cases q1 : ltB (codes n l r (j + 1)) (codes n l r b) = true
     · rw [if_pos q1] at hs
       exact Ev.congr (fun k => if_pos q1) (hI _ _ hs)
     · rw [if_neg q1] at hs
       by_cases q2 : ltB (codes n l r b) (codes n l r (j + 1)) = true
       · rw [if_pos q2] at hs
         exact Ev.congr (fun k => by rw [if_neg q1, if_neg (fun e => by rw [of_decide_eq_true e, ltB_self] at q2; cases q2)]) (hI _ _ hs)
       · rw [if_neg q2] at hs
         exact Ev.congr (fun k => by rw [if_neg q1, if_pos (decide_eq_true (ltB_eq _ _ (by simpa using q1) (by simpa using q2)))]) (hI _ _ hs)
theorem refbest_ev (h : IsMap n l r) (hc : Ev (fun k => tangramref11_Check.f k (n : Int) l r) (0, 0)) (h0 : 0 < l.length) : Ev (fun k => tangramref21_Best.f k (n : Int) l r) (codes n l r (bestOf n l r).1, ((bestOf n l r).1 : Int), ((bestOf n l r).2 : Int)) := by
 unfold tangramref21_Best.f
 refine Ev.congr (fun k => if_pos h.good.2.2.1) ?_
 exact Ev.bind (seen_ev h hc (root := 0) (by omega)) (refbest_loop h hc (2 * l.length - 1) 0 (by omega) 0 1 rfl)
end
end Go.Proofs.Yteeihjpnhjnknaa.Rot
namespace Go.Proofs.Yteeihjpnhjnknaa.Seen
open Go.RowKit Go.Proofs.YteeihjpnhjnknaaW.PrintWords Go.Proofs.Yteeihjpnhjnknaa.Mem
set_option linter.unusedVariables false
set_option linter.unusedSimpArgs false
def frm (tos : List Int) (h : Int) : Int := gi tos (tw h).toNat
def too (tos : List Int) (h : Int) : Int := gi tos h.toNat
structure Web (n : Nat) (nx tos : List Int) : Prop extends Fit n nx tos where
 inv : ∀ h : Nat, h < nx.length → tw (tw (h : Int)) = h
 fnext : ∀ h : Nat, h < nx.length → frm tos (gi nx h) = frm tos h
 around : ∀ x y : Nat, x < nx.length → y < nx.length → frm tos x = frm tos y → ∃ j, j < per nx (x : Int) ∧ it nx (x : Int) j = y
 conn : ∀ P : Nat → Prop, (∀ h : Nat, h < nx.length → P (frm tos h).toNat → P (too tos h).toNat) → ∀ a b, a < n → b < n → P a → P b
structure Inv (n : Nat) (tos : List Int) (s : St) : Prop where
 a : ∀ i, i < s.ord.length → gi s.num (gi s.ord i).toNat = (i : Int)
 b : ∀ v, v < n → 0 ≤ gi s.num v → ∃ i, i < s.ord.length ∧ gi s.num v = (i : Int) ∧ gi s.ord i = (v : Int)
 c : ∀ i, i < s.ent.length → frm tos (gi s.ent i) = gi s.ord i
structure Ext (s t : St) : Prop where
 num : ∀ v, 0 ≤ gi s.num v → gi t.num v = gi s.num v
 ent : ∃ x, t.ent = s.ent ++ x
 ord : ∃ x, t.ord = s.ord ++ x
theorem Ext.refl (s : St) : Ext s s := ⟨fun _ _ => rfl, ⟨[], by simp⟩, ⟨[], by simp⟩⟩
theorem Ext.trans {a b c : St} (h : Ext a b) (k : Ext b c) : Ext a c := by
 obtain ⟨x, hx⟩ := h.ent
 obtain ⟨y, hy⟩ := k.ent
 obtain ⟨u, hu⟩ := h.ord
 obtain ⟨v, hv⟩ := k.ord
 refine ⟨fun w hw => ?_, ⟨x ++ y, by rw [hy, hx, List.append_assoc]⟩, ⟨u ++ v, by rw [hv, hu, List.append_assoc]⟩⟩
 have := h.num w hw
 rw [k.num w (by rw [this]; exact hw), this]
theorem gi_pre {x y : List Int} {i : Nat} (h : i < x.length) : gi (x ++ y) i = gi x i := by
 unfold gi
 rw [List.getD_eq_getElem?_getD, List.getD_eq_getElem?_getD, List.getElem?_append_left h]
theorem Ext.gent {s t : St} (h : Ext s t) {i : Nat} (hi : i < s.ent.length) : gi t.ent i = gi s.ent i := by
 obtain ⟨x, hx⟩ := h.ent
 rw [hx, gi_pre hi]
theorem Ext.lent {s t : St} (h : Ext s t) : s.ent.length ≤ t.ent.length := by
 obtain ⟨x, hx⟩ := h.ent
 rw [hx, List.length_append]; omega
section
variable {n : Nat} {nx tos : List Int}
theorem step_ext (hf : Fit n nx tos) {s : St} (h : Ok n nx.length s) (q : Int) : Ext s (stepH tos s q) := by
 unfold stepH
 split
 · rename_i hn
   refine ⟨fun v hv => ?_, ⟨_, rfl⟩, ⟨_, rfl⟩⟩
   show gi (s.num.set _ _) v = _
   rw [gi_set, if_neg]
   rintro ⟨e, _⟩
   rw [e] at hn
   omega
 · exact ⟨fun _ _ => rfl, ⟨[], by simp⟩, ⟨[], by simp⟩⟩
theorem step_num (hf : Fit n nx tos) {s : St} (h : Ok n nx.length s) {q : Int} (h0 : 0 ≤ q) (h1 : q < (nx.length : Int)) :
   0 ≤ gi (stepH tos s q).num (too tos q).toNat ∧ (stepH tos s q).cd = s.cd ++ [gi (stepH tos s q).num (too tos q).toNat] := by
 obtain ⟨p, rfl⟩ := Int.eq_ofNat_of_zero_le h0
 have ht := hf.htos p (by omega)
 have hl : (gi tos ((p : Int)).toNat).toNat < s.num.length := by rw [h.num, Int.toNat_natCast]; omega
 unfold stepH too
 by_cases c : gi s.num (gi tos ((p : Int)).toNat).toNat < 0
 · rw [if_pos c]
   simp only
   rw [gi_set, if_pos ⟨rfl, hl⟩]
   exact ⟨by omega, rfl⟩
 · rw [if_neg c]
   exact ⟨Int.not_lt.1 c, rfl⟩
theorem step_inv (hw : Web n nx tos) {s : St} (h : Ok n nx.length s) (k : Inv n tos s) {q : Int} (h0 : 0 ≤ q) (h1 : q < (nx.length : Int)) : Inv n tos (stepH tos s q) := by
 obtain ⟨p, rfl⟩ := Int.eq_ofNat_of_zero_le h0
 have hp : p < nx.length := by omega
 have ht := hw.htos p hp
 unfold stepH
 rw [Int.toNat_natCast]
 by_cases c : gi s.num (gi tos p).toNat < 0
 · rw [if_pos c]
   have hl : (gi tos p).toNat < s.num.length := by rw [h.num]; omega
   have hE := h.ent
   refine ⟨fun i hi => ?_, fun v hv hn => ?_, fun i hi => ?_⟩
   · simp only [List.length_append, List.length_singleton] at hi
     simp only [gi_app, gi_set]
     by_cases d : i < s.ord.length
     · rw [if_pos d, if_neg, k.a i d]
       rintro ⟨e, _⟩
       have := k.a i d
       rw [← e] at this
       omega
     · obtain rfl : i = s.ord.length := by omega
       rw [if_neg d, if_pos rfl, if_pos ⟨rfl, hl⟩]
   · simp only [gi_set] at hn ⊢
     by_cases e : (gi tos p).toNat = v ∧ v < s.num.length
     · rw [if_pos e]
       refine ⟨s.ord.length, by simp, rfl, ?_⟩
       rw [gi_app, if_neg (by omega), if_pos rfl]; omega
     · rw [if_neg e] at hn ⊢
       obtain ⟨i, i1, i2, i3⟩ := k.b v hv hn
       exact ⟨i, by simp only [List.length_append]; omega, i2, by rw [gi_app, if_pos i1]; exact i3⟩
   · simp only [List.length_append, List.length_singleton] at hi
     simp only [gi_app]
     by_cases d : i < s.ent.length
     · rw [if_pos d, if_pos (by omega)]; exact k.c i d
     · rw [if_neg d, if_pos (by omega), if_neg (by omega), if_pos (by omega)]
       unfold frm
       rw [hw.inv p hp, Int.toNat_natCast]
 · rw [if_neg c]
   exact ⟨k.a, k.b, k.c⟩
theorem Inv.cd {s : St} (h : Inv n tos s) (c : List Int) : Inv n tos { s with cd := c } := ⟨h.a, h.b, h.c⟩
def rowTo (nx tos : List Int) (F : St) (h : Int) (j : Nat) : List Int := (List.range j).map fun t => gi F.num (too tos (it nx h t)).toNat
theorem turn_all (hw : Web n nx tos) {s : St} (h : Ok n nx.length s) (k : Inv n tos s) {q : Int} (h0 : 0 ≤ q) (h1 : q < (nx.length : Int)) : ∀ j, Inv n tos (turn nx tos s q j) ∧ Ext s (turn nx tos s q j) ∧ (∀ t, t < j → 0 ≤ gi (turn nx tos s q j).num (too tos (it nx q t)).toNat) ∧ ∀ F, Ext (turn nx tos s q j) F → (turn nx tos s q j).cd = s.cd ++ rowTo nx tos F q j
 | 0 => ⟨k, Ext.refl _, fun t ht => absurd ht (by omega), fun F _ => by simp [turn, rowTo]⟩
 | j + 1 => by
   obtain ⟨i1, i2, i3, i4⟩ := turn_all hw h k h0 h1 j
   have ho := h.turn hw.toFit h0 h1 j
   have hq := it_in hw.toFit h0 h1 j
   have e1 := step_ext hw.toFit ho (it nx q j)
   have e2 := step_num hw.toFit ho hq.1 hq.2
   refine ⟨step_inv hw ho i1 hq.1 hq.2, i2.trans e1, fun t ht => ?_, fun F hF => ?_⟩
   · show 0 ≤ gi (stepH tos (turn nx tos s q j) (it nx q j)).num _
     rcases Nat.lt_or_eq_of_le (Nat.le_of_lt_succ ht) with g | rfl
     · rw [e1.num _ (i3 t g)]; exact i3 t g
     · exact e2.1
   · show (stepH tos (turn nx tos s q j) (it nx q j)).cd = _
     have hF : Ext (stepH tos (turn nx tos s q j) (it nx q j)) F := hF
     rw [e2.2, i4 F (e1.trans hF)]
     unfold rowTo
     rw [List.range_succ, List.map_append, List.append_assoc, ← hF.num _ e2.1]
     rfl
def blk (row : List Int) : List Int := (row.length : Int) :: row
def rowF (nx tos : List Int) (F : St) (h : Int) : List Int := rowTo nx tos F h (per nx h)
theorem rowF_length (F : St) (h : Int) : (rowF nx tos F h).length = per nx h := by unfold rowF rowTo; simp
theorem vert_all (hw : Web n nx tos) {s : St} (h : Ok n nx.length s) (k : Inv n tos s) {q : Int} (h0 : 0 ≤ q) (h1 : q < (nx.length : Int)) :
   Inv n tos (vert nx tos s q) ∧ Ext s (vert nx tos s q) ∧ (∀ t, t < per nx q → 0 ≤ gi (vert nx tos s q).num (too tos (it nx q t)).toNat) ∧ ∀ F, Ext (vert nx tos s q) F → (vert nx tos s q).cd = s.cd ++ blk (rowF nx tos F q) := by
 obtain ⟨i1, i2, i3, i4⟩ := turn_all hw (h.cd []) (k.cd []) h0 h1 (per nx q)
 refine ⟨⟨i1.a, i1.b, i1.c⟩, ⟨i2.num, i2.ent, i2.ord⟩, i3, fun F hF => ?_⟩
 have := i4 F ⟨hF.num, hF.ent, hF.ord⟩
 show s.cd ++ ((per nx q : Nat) : Int) :: (turn nx tos { s with cd := [] } q (per nx q)).cd = _
 rw [this, List.nil_append]
 unfold blk
 rw [rowF_length]
 rfl
def Live (nx tos : List Int) (s : St) (k : Nat) : Prop := ∀ i, i < k → i < (upto nx tos s i).ent.length
structure Run (n : Nat) (nx tos : List Int) (s : St) (k : Nat) : Prop where
 ok : Ok n nx.length (upto nx tos s k)
 inv : Inv n tos (upto nx tos s k)
 ext : Ext s (upto nx tos s k)
 le : k ≤ (upto nx tos s k).ent.length
 met : ∀ i, i < k → ∀ t, t < per nx (gi (upto nx tos s k).ent i) → 0 ≤ gi (upto nx tos s k).num (too tos (it nx (gi (upto nx tos s k).ent i) t)).toNat
 cd : ∀ F, Ext (upto nx tos s k) F → (upto nx tos s k).cd = s.cd ++ (List.range k).flatMap fun i => blk (rowF nx tos F (gi F.ent i))
theorem run (hw : Web n nx tos) {s : St} (h : Ok n nx.length s) (g : Inv n tos s) : ∀ k, Live nx tos s k → Run n nx tos s k
 | 0, _ => ⟨h, g, Ext.refl _, Nat.zero_le _, fun i hi => absurd hi (by omega), fun F _ => by simp [upto]⟩
 | k + 1, hl => by
   have R := run hw h g k (fun i hi => hl i (by omega))
   have hk := hl k (by omega)
   have hq := R.ok.inE k hk
   obtain ⟨v1, v2, v3, v4⟩ := vert_all hw R.ok R.inv hq.1 hq.2
   have e := upto_go hk
   have hle := v2.lent
   refine ⟨h.upto hw.toFit _, by rw [e]; exact v1, by rw [e]; exact R.ext.trans v2, by rw [e]; omega, fun i hi t ht => ?_, fun F hF => ?_⟩
   · rw [e] at ht ⊢
     rcases Nat.lt_or_eq_of_le (Nat.le_of_lt_succ hi) with c | rfl
     · have e2 := v2.gent (i := i) (by omega)
       rw [e2] at ht ⊢
       have := R.met i c t ht
       rw [v2.num _ this]; exact this
     · have e2 := v2.gent (i := i) (by omega)
       rw [e2] at ht ⊢
       exact v3 t ht
   · rw [e] at hF ⊢
     rw [v4 F hF, R.cd F (v2.trans hF), List.range_succ, List.flatMap_append, List.append_assoc, ← (v2.trans hF).gent (i := k) (by omega)]
     simp
theorem ends (hw : Web n nx tos) {s : St} (h : Ok n nx.length s) (g : Inv n tos s) : ∃ k, k ≤ n ∧ Run n nx tos s k ∧ upto nx tos s n = upto nx tos s k ∧ (upto nx tos s k).ent.length = k := by
 have key : ∀ d k, k + d = n → Live nx tos s k → ∃ k, k ≤ n ∧ Run n nx tos s k ∧ upto nx tos s n = upto nx tos s k ∧ (upto nx tos s k).ent.length = k := by
   intro d
   induction d with
   | zero =>
     intro k hk hl
     obtain rfl : k = n := by omega
     have R := run hw h g k hl
     exact ⟨k, Nat.le_refl _, R, rfl, Nat.le_antisymm R.ok.le R.le⟩
   | succ d ih =>
     intro k hk hl
     by_cases c : k < (upto nx tos s k).ent.length
     · refine ih (k + 1) (by omega) (fun i hi => ?_)
       rcases Nat.lt_or_eq_of_le (Nat.le_of_lt_succ hi) with q | rfl
       · exact hl i q
       · exact c
     · have R := run hw h g k hl
       refine ⟨k, by omega, R, ?_, Nat.le_antisymm (by omega) R.le⟩
       have := upto_stop (nx := nx) (tos := tos) (s := s) (k := k) (by omega) (d + 1)
       rw [show n = k + (d + 1) by omega, this]
 exact key n 0 (by omega) (fun i hi => absurd hi (by omega))
structure Full (n : Nat) (nx tos : List Int) (root : Int) (F : St) : Prop where
 num : F.num.length = n
 ord : F.ord.length = n
 ent : F.ent.length = n
 inv : Inv n tos F
 pos : ∀ v, v < n → 0 ≤ gi F.num v
 inO : ∀ i, i < n → 0 ≤ gi F.ord i ∧ gi F.ord i < (n : Int)
 inE : ∀ i, i < n → 0 ≤ gi F.ent i ∧ gi F.ent i < (nx.length : Int)
 root : 0 < n ∧ gi F.ent 0 = root
 cd : F.cd = (List.range n).flatMap fun i => blk (rowF nx tos F (gi F.ent i))
theorem neg_none : ∀ (l : List Int), (∀ v, v < l.length → 0 ≤ gi l v) → neg l = 0
 | [], _ => rfl
 | a :: l, h => by
   have h1 : 0 ≤ a := h 0 (by simp)
   have h2 := neg_none l (fun v hv => h (v + 1) (by simp; omega))
   unfold neg at h2 ⊢
   rw [List.filter_cons_of_neg (by simpa using h1)]
   exact h2
theorem full (hw : Web n nx tos) {root : Nat} (hr : root < nx.length) : Full n nx tos (root : Int) (all n nx tos (root : Int)) := by
 have hv : 0 ≤ frm tos (root : Int) ∧ frm tos (root : Int) < (n : Int) := by
   have h1 := hw.htw root hr
   exact hw.htos _ (by omega)
 have hs : Ok n nx.length (start n tos (root : Int) (frm tos (root : Int))) := Ok.start (by omega) hv
 obtain ⟨v, hv2⟩ := Int.eq_ofNat_of_zero_le hv.1
 have hvn : v < n := by omega
 have hg : Inv n tos (start n tos (root : Int) (frm tos (root : Int))) := by
   unfold start
   rw [hv2, Int.toNat_natCast]
   refine ⟨fun i hi => ?_, fun u hu hn => ?_, fun i hi => ?_⟩
   · obtain rfl : i = 0 := by simpa using hi
     show gi ((List.replicate n (-1)).set v 0) ((v : Int)).toNat = 0
     rw [Int.toNat_natCast, gi_set, if_pos ⟨rfl, by simpa using hvn⟩]
   · simp only [gi_set] at hn ⊢
     by_cases e : v = u ∧ u < (List.replicate n (-1 : Int)).length
     · rw [if_pos e]
       exact ⟨0, by simp, rfl, by rw [e.1]; rfl⟩
     · rw [if_neg e] at hn
       unfold gi at hn
       rw [List.getD_eq_getElem?_getD, List.getElem?_replicate, if_pos hu] at hn
       exact absurd hn (by decide)
   · obtain rfl : i = 0 := by simpa using hi
     show frm tos (root : Int) = (v : Int)
     exact hv2
 obtain ⟨k, hk, R, e, hl⟩ := ends hw hs hg
 have hall : all n nx tos (root : Int) = upto nx tos (start n tos (root : Int) (frm tos (root : Int))) k := e
 have hE := R.ok.ent
 have hc := R.ok.cnt
 have h0 : 0 < k := by
   have := R.ext.lent
   have : (start n tos (root : Int) (frm tos (root : Int))).ent.length = 1 := rfl
   omega
 have hpos : ∀ u, u < n → 0 ≤ gi (upto nx tos (start n tos (root : Int) (frm tos (root : Int))) k).num u := by
   intro u hu
   have e0 := R.inv.a 0 (by omega)
   have o0 := R.ok.inO 0 (by omega)
   refine hw.conn (fun a => 0 ≤ gi (upto nx tos (start n tos (root : Int) (frm tos (root : Int))) k).num a) (fun h hh hP => ?_) (gi (upto nx tos (start n tos (root : Int) (frm tos (root : Int))) k).ord 0).toNat u (by omega) hu (by rw [e0]; omega)
   have hfr : 0 ≤ frm tos (h : Int) ∧ frm tos (h : Int) < (n : Int) := by
     have h1 := hw.htw h hh
     exact hw.htos _ (by omega)
   obtain ⟨i, i1, i2, i3⟩ := R.inv.b _ (by omega) hP
   have ic := R.inv.c i (by omega)
   rw [i3, Int.toNat_of_nonneg hfr.1] at ic
   obtain ⟨m1, m2⟩ := R.ok.inE i (by omega)
   obtain ⟨x, hx⟩ := Int.eq_ofNat_of_zero_le m1
   rw [hx] at ic m2
   obtain ⟨j, j1, j2⟩ := hw.around x h (by omega) hh ic
   have := R.met i (by omega) j (by rw [hx]; exact j1)
   rw [hx, j2] at this
   exact this
 have hz := neg_none _ (fun u hu => hpos u (by rw [R.ok.num] at hu; exact hu))
 have hkn : k = n := by omega
 rw [hall]
 subst hkn
 refine ⟨R.ok.num, by omega, hl, R.inv, hpos, fun i hi => R.ok.inO i (by omega), fun i hi => R.ok.inE i (by omega), ⟨h0, R.ext.gent (i := 0) (by show 0 < 1; omega)⟩, ?_⟩
 have := R.cd _ (Ext.refl _)
 exact this
theorem rows_eq : ∀ (X Y : List (List Int)), X.flatMap blk = Y.flatMap blk → X = Y
 | [], [], _ => rfl
 | [], y :: Y, h => by simp [blk] at h
 | x :: X, [], h => by simp [blk] at h
 | x :: X, y :: Y, h => by
   simp only [List.flatMap_cons, blk, List.cons_append, List.cons.injEq] at h
   obtain ⟨h1, h2⟩ := h
   obtain ⟨h3, h4⟩ := List.append_inj h2 (by omega)
   rw [h3, rows_eq X Y h4]
end
theorem full_cd {n : Nat} {nx tos : List Int} {root : Int} {F : St} (h : Full n nx tos root F) : F.cd = ((List.range n).map fun i => rowF nx tos F (gi F.ent i)).flatMap blk := by
 rw [h.cd, List.flatMap_map]
theorem full_rows {n n' : Nat} {nx tos nx' tos' : List Int} {root root' : Int} {F F' : St} (h : Full n nx tos root F) (h' : Full n' nx' tos' root' F') (e : F.cd = F'.cd) : n = n' ∧ ∀ i, i < n → rowF nx tos F (gi F.ent i) = rowF nx' tos' F' (gi F'.ent i) := by
 rw [full_cd h, full_cd h'] at e
 have k := rows_eq _ _ e
 have hl := congrArg List.length k
 simp only [List.length_map, List.length_range] at hl
 subst hl
 refine ⟨rfl, fun i hi => ?_⟩
 have := congrArg (fun x => x[i]?) k
 simpa [hi] using this
theorem full_inj {n : Nat} {nx tos : List Int} {root : Int} {F : St} (h : Full n nx tos root F) {i j : Nat} (hi : i < n) (hj : j < n) (e : gi F.ord i = gi F.ord j) : i = j := by
 have a := h.inv.a i (by rw [h.ord]; exact hi)
 have b := h.inv.a j (by rw [h.ord]; exact hj)
 rw [e, b] at a
 omega
end Go.Proofs.Yteeihjpnhjnknaa.Seen
namespace Go.Proofs.Yteeihjpnhjnknaa.Rot
open Go.RowKit Go.Proofs.YteeihjpnhjnknaaW.PrintWords Go.Proofs.YteeihjpnhjnknaaW.PrintLast Go.Proofs.YteeihjpnhjnknaaW.PrintMore Go.Proofs.Yteeihjpnhjnknaa.GAll Go.Proofs.Yteeihjpnhjnknaa.Mem Go.Proofs.Yteeihjpnhjnknaa.Seen
set_option linter.unusedVariables false
set_option linter.unusedSimpArgs false
theorem numTo_one {m : List Nat} (h0 : Sets.gt m 0 ≤ 0) : ∀ k, 0 < k → 1 ≤ (Sets.numTo m k).2 ∧ ((Sets.numTo m k).2 = 1 → ∀ i, 0 < i → i < k → Sets.gt m i < i)
 | 0, h => absurd h (by omega)
 | 1, _ => by
   have e : (Sets.numTo m 1).2 = 1 := by rw [Sets.numTo_new (by omega)]; rfl
   exact ⟨by omega, fun _ i h1 h2 => by omega⟩
 | k + 2, _ => by
   obtain ⟨a, b⟩ := numTo_one h0 (k + 1) (by omega)
   by_cases c : Sets.gt m (k + 1) < k + 1
   · rw [Sets.numTo_old c]
     refine ⟨a, fun e i h1 h2 => ?_⟩
     rcases Nat.lt_or_eq_of_le (Nat.le_of_lt_succ h2) with q | rfl
     · exact b e i h1 q
     · exact c
   · rw [Sets.numTo_new c]
     exact ⟨by omega, fun e => by omega⟩
theorem part_zero {n : Nat} {E : Nat → Nat → Prop} {m : List Nat} (h : Sets.Part n E m) (hone : (Sets.numTo m n).2 = 1) {i : Nat} (hi : i < n) : Sets.gt m i = 0 := by
 obtain ⟨_, b⟩ := numTo_one (h.le 0 (by omega)) n (by omega)
 have e := h.idem hi
 by_cases z : Sets.gt m i = 0
 · exact z
 · have := b hone (Sets.gt m i) (by omega) (h.lt hi)
   omega
theorem Conn_prop {E : Nat → Nat → Prop} {P : Nat → Prop} (hP : ∀ a b, E a b → (P a ↔ P b)) {a b : Nat} (h : Sets.Conn E a b) : P a → P b := by
 induction h with
 | refl => exact id
 | fwd _ e ih => exact fun x => (hP _ _ e).1 (ih x)
 | bwd _ e ih => exact fun x => (hP _ _ e).2 (ih x)
section
variable {n : Nat} {l : List Ed} {r : List (List Int)}
theorem frm_frs (hg : PureV.Good (n : Int) l) {h : Nat} (hh : h < 2 * l.length) : frm (toOf l) (h : Int) = gi (frs l) h := (from_to hg hh).1.symm
theorem tw_tw {h : Nat} (hh : h ≤ 8388608) : tw (tw (h : Int)) = h := by
 rw [tw_nat (by omega)]
 by_cases c : h % 2 = 0
 · rw [if_pos c, tw_nat (by omega), if_neg (by omega)]; rfl
 · rw [if_neg c, tw_nat (by omega), if_pos (by omega)]; omega
theorem one_part (h : IsMap n l r) (hp : parts n l = 1) (P : Nat → Prop) (hP : ∀ h : Nat, h < (nxOf l r).length → P (frm (toOf l) h).toNat → P (too (toOf l) h).toNat) : ∀ a b, a < n → b < n → P a → P b := by
 intro a b ha hb
 have hpt := Sets.joinAll_part n (ends l)
 have hone : (Sets.numTo (Sets.joinAll (List.range n) (ends l)) n).2 = 1 := by
   have := hp
   unfold parts comps_Of.out at this
   rw [Int.toNat_natCast] at this
   exact this
 have hc := (hpt.iff ha hb).1 (by rw [part_zero hpt hone ha, part_zero hpt hone hb])
 refine Conn_prop (fun u v hE => ?_) hc
 obtain ⟨hu, hv, hm⟩ := hE
 obtain ⟨i, hi, e⟩ := List.getElem_of_mem hm
 have hil : i < l.length := by rw [ends_length] at hi; exact hi
 have hpe : pe (ends l) i = ((u : Int), (v : Int)) := by
   rw [← e]
   unfold pe
   rw [List.getD_eq_getElem?_getD, List.getElem?_eq_getElem hi]; rfl
 have f1 := froms_even (ends l) i hi
 have t1 := Graph.tos_two (ends l) i hi
 rw [hpe] at f1 t1
 have k1 := hP (2 * i) (by rw [h.len]; omega)
 have k2 := hP (2 * i + 1) (by rw [h.len]; omega)
 rw [frm_frs h.good (by omega)] at k1 k2
 have g1 : gi (frs l) (2 * i) = (u : Int) := f1.1
 have g2 : gi (frs l) (2 * i + 1) = (v : Int) := f1.2
 have g3 : too (toOf l) ((2 * i : Nat) : Int) = (v : Int) := by unfold too; rw [Int.toNat_natCast]; exact t1.1
 have g4 : too (toOf l) ((2 * i + 1 : Nat) : Int) = (u : Int) := by unfold too; rw [Int.toNat_natCast]; exact t1.2
 rw [g1, g3, Int.toNat_natCast, Int.toNat_natCast] at k1
 rw [g2, g4, Int.toNat_natCast, Int.toNat_natCast] at k2
 exact ⟨k1, k2⟩
theorem web (h : IsMap n l r) (hp : parts n l = 1) : Web n (nxOf l r) (toOf l) := by
 have hlen := h.len
 have hll := h.good.2.2.1
 have hfl := frs_length l
 have hx := nxOf_next h.rot
 refine { toFit := h.fit, inv := fun x hh => tw_tw (by omega), fnext := fun x hh => ?_, around := fun x y hh hy e => ?_, conn := one_part h hp }
 · obtain ⟨a, b, c⟩ := next_in h.rot hx (frs_in h.good) (show x < (frs l).length by omega)
   obtain ⟨y, hy⟩ := Int.eq_ofNat_of_zero_le a
   rw [frm_frs h.good (by omega), hy, frm_frs h.good (by omega)]
   rw [hy, Int.toNat_natCast] at c
   exact c
 · obtain ⟨v, j, h1, h2, h3, h4⟩ := h.rot.place (frs_in h.good) (show x < (frs l).length by omega)
   obtain ⟨u, i, g1, g2, g3, g4⟩ := h.rot.place (frs_in h.good) (show y < (frs l).length by omega)
   rw [frm_frs h.good (by omega), frm_frs h.good (by omega), h2, g2] at e
   obtain rfl : v = u := by omega
   have hper := per_row h.rot hx h1 h3
   rw [h4] at hper
   refine ⟨(i + (gl r v).length - j) % (gl r v).length, ?_, ?_⟩
   · rw [hper]; exact Nat.mod_lt _ (by omega)
   · rw [← h4, it_at h.rot hx h1 h3, Nat.add_mod_mod, show j + (i + (gl r v).length - j) = i + (gl r v).length by omega, Nat.add_mod_right, Nat.mod_eq_of_lt g3, g4]
end
end Go.Proofs.Yteeihjpnhjnknaa.Rot
namespace Go.Proofs.Yteeihjpnhjnknaa.Seen
open Go.RowKit Go.Proofs.YteeihjpnhjnknaaW.PrintWords Go.Proofs.Yteeihjpnhjnknaa.Mem
set_option linter.unusedVariables false
set_option linter.unusedSimpArgs false
def In (nx : List Int) (x : Int) : Prop := 0 ≤ x ∧ x < (nx.length : Int)
structure Aut (nx tos : List Int) (f : Int → Int) : Prop where
 map : ∀ x, In nx x → In nx (f x)
 next : ∀ x, In nx x → f (gi nx x.toNat) = gi nx (f x).toNat
 twin : ∀ x, In nx x → f (tw x) = tw (f x)
 inj : ∀ x y, In nx x → In nx y → f x = f y → x = y
def Simple (nx tos : List Int) : Prop := ∀ x y : Nat, x < nx.length → y < nx.length → frm tos x = frm tos y → too tos x = too tos y → x = y
section
variable {n : Nat} {nx tos : List Int} {f g : Int → Int}
theorem In.nat {x : Int} (h : In nx x) : ∃ k : Nat, x = k ∧ k < nx.length := by
 obtain ⟨k, rfl⟩ := Int.eq_ofNat_of_zero_le h.1
 exact ⟨k, rfl, by have := h.2; omega⟩
theorem In.next (hw : Web n nx tos) {x : Int} (h : In nx x) : In nx (gi nx x.toNat) := by
 obtain ⟨k, rfl, hk⟩ := h.nat
 exact hw.hnx k hk
theorem In.twin (hw : Web n nx tos) {x : Int} (h : In nx x) : In nx (tw x) := by
 obtain ⟨k, rfl, hk⟩ := h.nat
 exact hw.htw k hk
theorem In.it (hw : Web n nx tos) {x : Int} (h : In nx x) : ∀ j, In nx (it nx x j) := it_in hw.toFit h.1 h.2
theorem Web.tt (hw : Web n nx tos) {x : Int} (h : In nx x) : tw (tw x) = x := by
 obtain ⟨k, rfl, hk⟩ := h.nat
 exact hw.inv k hk
theorem Web.fr (hw : Web n nx tos) {x : Int} (h : In nx x) : 0 ≤ frm tos x ∧ frm tos x < (n : Int) := by
 obtain ⟨a, b⟩ := h.twin hw
 exact hw.htos _ (by omega)
theorem Web.to (hw : Web n nx tos) {x : Int} (h : In nx x) : 0 ≤ too tos x ∧ too tos x < (n : Int) := by
 obtain ⟨a, b⟩ := h
 exact hw.htos _ (by omega)
theorem Web.ft (hw : Web n nx tos) {x : Int} (h : In nx x) : frm tos (tw x) = too tos x := by
 unfold frm too; rw [hw.tt h]
theorem Web.fit' (hw : Web n nx tos) {x : Int} (h : In nx x) : ∀ j, frm tos (Seen.it nx x j) = frm tos x
 | 0 => rfl
 | j + 1 => by
   obtain ⟨k, e, hk⟩ := (h.it hw j).nat
   show frm tos (gi nx (Seen.it nx x j).toNat) = _
   rw [← hw.fit' h j, e, Int.toNat_natCast]
   exact hw.fnext k hk
theorem Web.arnd (hw : Web n nx tos) {x y : Int} (hx : In nx x) (hy : In nx y) (e : frm tos x = frm tos y) : ∃ j, j < per nx x ∧ Seen.it nx x j = y := by
 obtain ⟨k, rfl, hk⟩ := hx.nat
 obtain ⟨i, rfl, hi⟩ := hy.nat
 exact hw.around k i hk hi e
theorem Aut.it (hw : Web n nx tos) (h : Aut nx tos f) {x : Int} (hx : In nx x) : ∀ j, f (it nx x j) = it nx (f x) j
 | 0 => rfl
 | j + 1 => by
   show f (gi nx (Seen.it nx x j).toNat) = gi nx (Seen.it nx (f x) j).toNat
   rw [h.next _ (hx.it hw j), Aut.it hw h hx j]
theorem Aut.frm_iff (hw : Web n nx tos) (h : Aut nx tos f) {x y : Int} (hx : In nx x) (hy : In nx y) : frm tos (f x) = frm tos (f y) ↔ frm tos x = frm tos y := by
 constructor
 · intro e
   obtain ⟨j, _, hj⟩ := hw.arnd (h.map x hx) (h.map y hy) e
   rw [← h.it hw hx] at hj
   rw [← h.inj _ _ (hx.it hw j) hy hj, hw.fit' hx]
 · intro e
   obtain ⟨j, _, hj⟩ := hw.arnd hx hy e
   rw [← hj, h.it hw hx, hw.fit' (h.map x hx)]
theorem Aut.to (hw : Web n nx tos) (h : Aut nx tos f) {x : Int} (hx : In nx x) : too tos (f x) = frm tos (f (tw x)) := by
 rw [h.twin x hx, hw.ft (h.map x hx)]
theorem Aut.per (hw : Web n nx tos) (h : Aut nx tos f) {x : Int} (hx : In nx x) : per nx (f x) = per nx x := by
 unfold Seen.per
 have e : (fun j => Seen.it nx (f x) (j + 1) == f x) = fun j => Seen.it nx x (j + 1) == x := by
   funext j
   rw [← h.it hw hx, Bool.eq_iff_iff, beq_iff_eq, beq_iff_eq]
   exact ⟨fun q => h.inj _ _ (hx.it hw _) hx q, fun q => by rw [q]⟩
 rw [e]
structure Sim (nx tos : List Int) (f : Int → Int) (s t : St) : Prop where
 ent : t.ent = s.ent.map f
 cd : t.cd = s.cd
 ord : t.ord.length = s.ord.length
 num : ∀ x, In nx x → gi t.num (frm tos (f x)).toNat = gi s.num (frm tos x).toNat
theorem Sim.step (hw : Web n nx tos) (h : Aut nx tos f) {s t : St} (k : Sim nx tos f s t) (os : Ok n nx.length s) (ot : Ok n nx.length t) {q : Int} (hq : In nx q) : Sim nx tos f (stepH tos s q) (stepH tos t (f q)) := by
 have e1 : gi tos q.toNat = frm tos (tw q) := (hw.ft hq).symm
 have e2 : gi tos (f q).toNat = frm tos (f (tw q)) := h.to hw hq
 have e3 := k.num _ (hq.twin hw)
 have b1 := hw.fr (hq.twin hw)
 have b2 := hw.fr (h.map _ (hq.twin hw))
 unfold stepH
 rw [e1, e2, e3]
 by_cases c : gi s.num (frm tos (tw q)).toNat < 0
 · rw [if_pos c, if_pos c]
   refine ⟨?_, ?_, ?_, fun x hx => ?_⟩
   · show t.ent ++ [tw (f q)] = (s.ent ++ [tw q]).map f
     rw [k.ent, List.map_append, List.map_singleton, h.twin q hq]
   · show t.cd ++ [(t.ord.length : Int)] = s.cd ++ [(s.ord.length : Int)]
     rw [k.cd, k.ord]
   · show (t.ord ++ [_]).length = (s.ord ++ [_]).length
     simp [k.ord]
   · show gi (t.num.set _ _) _ = gi (s.num.set _ _) _
     have b3 := hw.fr hx
     have b4 := hw.fr (h.map _ hx)
     rw [gi_set, gi_set, k.num x hx, k.ord, os.num, ot.num]
     have := h.frm_iff hw (hq.twin hw) hx
     by_cases e : frm tos (tw q) = frm tos x
     · rw [if_pos ⟨by rw [this.2 e], by omega⟩, if_pos ⟨by rw [e], by omega⟩]
     · rw [if_neg (fun w => e (this.1 (by have := w.1; omega))), if_neg (fun w => e (by have := w.1; omega))]
 · rw [if_neg c, if_neg c]
   exact ⟨k.ent, by show t.cd ++ _ = s.cd ++ _; rw [k.cd], k.ord, k.num⟩
theorem Sim.turn (hw : Web n nx tos) (h : Aut nx tos f) {s t : St} (k : Sim nx tos f s t) (os : Ok n nx.length s) (ot : Ok n nx.length t) {q : Int} (hq : In nx q) : ∀ j, Sim nx tos f (turn nx tos s q j) (turn nx tos t (f q) j)
 | 0 => k
 | j + 1 => by
   have ih := Sim.turn hw h k os ot hq j
   show Sim nx tos f (stepH tos (Seen.turn nx tos s q j) (Seen.it nx q j)) (stepH tos (Seen.turn nx tos t (f q) j) (Seen.it nx (f q) j))
   rw [← h.it hw hq]
   have hf := h.map q hq
   exact ih.step hw h (os.turn hw.toFit hq.1 hq.2 j) (ot.turn hw.toFit hf.1 hf.2 j) (hq.it hw j)
theorem Sim.vert (hw : Web n nx tos) (h : Aut nx tos f) {s t : St} (k : Sim nx tos f s t) (os : Ok n nx.length s) (ot : Ok n nx.length t) {q : Int} (hq : In nx q) : Sim nx tos f (vert nx tos s q) (vert nx tos t (f q)) := by
 have k0 : Sim nx tos f { s with cd := [] } { t with cd := [] } := ⟨k.ent, rfl, k.ord, k.num⟩
 have key := k0.turn hw h (os.cd []) (ot.cd []) hq (Seen.per nx q)
 have e : Seen.vert nx tos t (f q) = { Seen.turn nx tos { t with cd := [] } (f q) (Seen.per nx q) with cd := t.cd ++ ((Seen.per nx q : Nat) : Int) :: (Seen.turn nx tos { t with cd := [] } (f q) (Seen.per nx q)).cd } := by
   unfold Seen.vert
   rw [h.per hw hq]
 rw [e]
 refine ⟨key.ent, ?_, key.ord, key.num⟩
 show t.cd ++ _ :: _ = s.cd ++ _ :: _
 rw [k.cd, key.cd]
theorem Sim.upto (hw : Web n nx tos) (h : Aut nx tos f) {s t : St} (k : Sim nx tos f s t) (os : Ok n nx.length s) (ot : Ok n nx.length t) : ∀ j, Sim nx tos f (upto nx tos s j) (upto nx tos t j)
 | 0 => k
 | j + 1 => by
   have ih := Sim.upto hw h k os ot j
   have hl : (Seen.upto nx tos t j).ent.length = (Seen.upto nx tos s j).ent.length := by rw [ih.ent, List.length_map]
   have o1 := os.upto hw.toFit j
   have o2 := ot.upto hw.toFit j
   by_cases c : j < (Seen.upto nx tos s j).ent.length
   · have c2 : j < (Seen.upto nx tos t j).ent.length := by rw [hl]; exact c
     rw [upto_go c, upto_go c2]
     have e : gi (Seen.upto nx tos t j).ent j = f (gi (Seen.upto nx tos s j).ent j) := by
       rw [ih.ent]
       unfold gi
       rw [List.getD_eq_getElem?_getD, List.getD_eq_getElem?_getD, List.getElem?_map, List.getElem?_eq_getElem c]
       rfl
     rw [e]
     exact ih.vert hw h o1 o2 (o1.inE j c)
   · have e1 : Seen.upto nx tos s (j + 1) = Seen.upto nx tos s j := by rw [Seen.upto, if_neg c]
     have e2 : Seen.upto nx tos t (j + 1) = Seen.upto nx tos t j := by rw [Seen.upto, if_neg (by rw [hl]; exact c)]
     rw [e1, e2]; exact ih
end
end Go.Proofs.Yteeihjpnhjnknaa.Seen
namespace Go.Proofs.Yteeihjpnhjnknaa.Seen
open Go.RowKit Go.Proofs.YteeihjpnhjnknaaW.PrintWords Go.Proofs.Yteeihjpnhjnknaa.Mem
set_option linter.unusedVariables false
set_option linter.unusedSimpArgs false
section
variable {n : Nat} {nx tos : List Int}
def psi (F G : St) (v : Int) : Int := gi G.ord (gi F.num v.toNat).toNat
theorem iso (hw : Web n nx tos) (hs : Simple nx tos) {g h : Nat} (hg : g < nx.length) (hh : h < nx.length) (e : (all n nx tos (g : Int)).cd = (all n nx tos (h : Int)).cd) : ∃ f, Aut nx tos f ∧ f (g : Int) = (h : Int) := by
 obtain ⟨F, hF⟩ : ∃ F, F = all n nx tos (g : Int) := ⟨_, rfl⟩
 obtain ⟨G, hG⟩ : ∃ G, G = all n nx tos (h : Int) := ⟨_, rfl⟩
 have FF : Full n nx tos (g : Int) F := by rw [hF]; exact full hw hg
 have GG : Full n nx tos (h : Int) G := by rw [hG]; exact full hw hh
 rw [← hF, ← hG] at e
 clear hF hG
 obtain ⟨_, hrow⟩ := full_rows FF GG e
 have hper : ∀ i, i < n → per nx (gi F.ent i) = per nx (gi G.ent i) := fun i hi => by
   have := congrArg List.length (hrow i hi)
   rw [rowF_length, rowF_length] at this; exact this
 have ent_frm : ∀ i, i < n → frm tos (gi F.ent i) = gi F.ord i ∧ frm tos (gi G.ent i) = gi G.ord i := fun i hi => ⟨FF.inv.c i (by rw [FF.ent]; exact hi), GG.inv.c i (by rw [GG.ent]; exact hi)⟩
 have numF : ∀ v : Nat, v < n → ∃ i, i < n ∧ gi F.num v = (i : Int) ∧ gi F.ord i = (v : Int) := fun v hv => by
   obtain ⟨i, i1, i2, i3⟩ := FF.inv.b v hv (FF.pos v hv)
   exact ⟨i, by rw [FF.ord] at i1; exact i1, i2, i3⟩
 have numG : ∀ v : Nat, v < n → ∃ i, i < n ∧ gi G.num v = (i : Int) ∧ gi G.ord i = (v : Int) := fun v hv => by
   obtain ⟨i, i1, i2, i3⟩ := GG.inv.b v hv (GG.pos v hv)
   exact ⟨i, by rw [GG.ord] at i1; exact i1, i2, i3⟩
 have psi_ord : ∀ i, i < n → psi F G (gi F.ord i) = gi G.ord i := fun i hi => by
   unfold psi
   rw [FF.inv.a i (by rw [FF.ord]; exact hi), Int.toNat_natCast]
 have psi_inj : ∀ a b : Int, 0 ≤ a → a < n → 0 ≤ b → b < n → psi F G a = psi F G b → a = b := by
   intro a b a0 a1 b0 b1 q
   obtain ⟨a, rfl⟩ := Int.eq_ofNat_of_zero_le a0
   obtain ⟨b, rfl⟩ := Int.eq_ofNat_of_zero_le b0
   obtain ⟨i, i1, i2, i3⟩ := numF a (by omega)
   obtain ⟨j, j1, j2, j3⟩ := numF b (by omega)
   rw [← i3, ← j3, psi_ord i i1, psi_ord j j1] at q
   rw [← i3, ← j3, full_inj GG i1 j1 q]
 have place : ∀ i, i < n → ∀ j, j < per nx (gi F.ent i) → frm tos (it nx (gi G.ent i) j) = psi F G (frm tos (it nx (gi F.ent i) j)) ∧ too tos (it nx (gi G.ent i) j) = psi F G (too tos (it nx (gi F.ent i) j)) := by
   intro i hi j hj
   have iF : In nx (gi F.ent i) := FF.inE i hi
   have iG : In nx (gi G.ent i) := GG.inE i hi
   refine ⟨by rw [hw.fit' iG, hw.fit' iF, (ent_frm i hi).1, (ent_frm i hi).2, psi_ord i hi], ?_⟩
   have := congrArg (fun x => gi x j) (hrow i hi)
   have hr : ∀ (F : St) (q : Int), j < per nx q → gi (rowF nx tos F q) j = gi F.num (too tos (it nx q j)).toNat := fun F q hq => by
     unfold rowF rowTo gi
     rw [List.getD_eq_getElem?_getD, List.getElem?_map, List.getElem?_range hq]; rfl
   rw [hr F _ hj, hr G _ (by rw [← hper i hi]; exact hj)] at this
   have t1 := hw.to (iF.it hw j)
   have t2 := hw.to (iG.it hw j)
   obtain ⟨k, k1, k2, k3⟩ := numG (too tos (it nx (gi G.ent i) j)).toNat (by omega)
   unfold psi
   rw [this, k2, Int.toNat_natCast, k3]
   omega
 have places : ∀ x, In nx x → ∃ i j, i < n ∧ j < per nx (gi F.ent i) ∧ it nx (gi F.ent i) j = x := by
   intro x hx
   have b := hw.fr hx
   obtain ⟨i, i1, i2, i3⟩ := numF (frm tos x).toNat (by omega)
   have iF : In nx (gi F.ent i) := FF.inE i i1
   obtain ⟨j, j1, j2⟩ := hw.arnd iF hx (by rw [(ent_frm i i1).1, i3]; omega)
   exact ⟨i, j, i1, j1, j2⟩
 have uniq : ∀ x y, In nx x → In nx y → frm tos x = frm tos y → too tos x = too tos y → x = y := by
   intro x y hx hy e1 e2
   obtain ⟨a, rfl, ha⟩ := hx.nat
   obtain ⟨b, rfl, hb⟩ := hy.nat
   rw [hs a b ha hb e1 e2]
 have img : ∀ x, ∃ y, In nx x → In nx y ∧ frm tos y = psi F G (frm tos x) ∧ too tos y = psi F G (too tos x) := by
   intro x
   by_cases hx : In nx x
   · obtain ⟨i, j, i1, j1, rfl⟩ := places x hx
     have iG : In nx (gi G.ent i) := GG.inE i i1
     exact ⟨it nx (gi G.ent i) j, fun _ => ⟨iG.it hw j, place i i1 j j1⟩⟩
   · exact ⟨0, fun q => absurd q hx⟩
 obtain ⟨f, hf⟩ := Classical.axiomOfChoice img
 have fpl : ∀ i, i < n → ∀ j, j < per nx (gi F.ent i) → f (it nx (gi F.ent i) j) = it nx (gi G.ent i) j := by
   intro i hi j hj
   have iF : In nx (gi F.ent i) := FF.inE i hi
   have iG : In nx (gi G.ent i) := GG.inE i hi
   obtain ⟨a, b, c⟩ := hf _ (iF.it hw j)
   obtain ⟨d1, d2⟩ := place i hi j hj
   exact uniq _ _ a (iG.it hw j) (by rw [b, d1]) (by rw [c, d2])
 refine ⟨f, ⟨fun x hx => (hf x hx).1, fun x hx => ?_, fun x hx => ?_, fun x y hx hy q => ?_⟩, ?_⟩
 · obtain ⟨i, j, i1, j1, rfl⟩ := places x hx
   have iF : In nx (gi F.ent i) := FF.inE i i1
   have iG : In nx (gi G.ent i) := GG.inE i i1
   have pF : 0 < per nx (gi F.ent i) := by omega
   rw [fpl i i1 j j1]
   show f (it nx (gi F.ent i) (j + 1)) = it nx (gi G.ent i) (j + 1)
   by_cases c : j + 1 < per nx (gi F.ent i)
   · exact fpl i i1 (j + 1) c
   · have c2 : j + 1 = per nx (gi F.ent i) := by omega
     have e1 := (per_spec pF).1
     have e2 := (per_spec (nx := nx) (h := gi G.ent i) (by rw [← hper i i1]; exact pF)).1
     rw [← c2] at e1
     rw [← hper i i1, ← c2] at e2
     rw [e1, e2]
     exact fpl i i1 0 pF
 · obtain ⟨a, b, c⟩ := hf x hx
   obtain ⟨a2, b2, c2⟩ := hf _ (hx.twin hw)
   refine uniq _ _ a2 (a.twin hw) ?_ ?_
   · rw [b2, hw.ft hx, hw.ft a, c]
   · have e1 : too tos (tw x) = frm tos x := rfl
     have e2 : too tos (tw (f x)) = frm tos (f x) := rfl
     rw [c2, e1, e2, b]
 · obtain ⟨a, b, c⟩ := hf x hx
   obtain ⟨a2, b2, c2⟩ := hf y hy
   have f1 := hw.fr hx
   have f2 := hw.fr hy
   have t1 := hw.to hx
   have t2 := hw.to hy
   exact uniq x y hx hy (psi_inj _ _ f1.1 f1.2 f2.1 f2.2 (by rw [← b, ← b2, q])) (psi_inj _ _ t1.1 t1.2 t2.1 t2.2 (by rw [← c, ← c2, q]))
 · have p0 : 0 < per nx (gi F.ent 0) := by rw [FF.root.2]; exact hw.hper g hg
   have := fpl 0 FF.root.1 0 p0
   have e1 : it nx (gi F.ent 0) 0 = gi F.ent 0 := rfl
   have e2 : it nx (gi G.ent 0) 0 = gi G.ent 0 := rfl
   rw [e1, e2, FF.root.2, GG.root.2] at this
   exact this
def cls (n : Nat) (nx tos : List Int) (x : Nat) : List Nat := (List.range nx.length).filter fun y => decide ((all n nx tos (y : Int)).cd = (all n nx tos (x : Int)).cd)
end
end Go.Proofs.Yteeihjpnhjnknaa.Seen
namespace Go.Proofs.Yteeihjpnhjnknaa.Seen
open Go.RowKit Go.Proofs.YteeihjpnhjnknaaW.PrintWords Go.Proofs.Yteeihjpnhjnknaa.Mem
set_option linter.unusedVariables false
set_option linter.unusedSimpArgs false
section
variable {n : Nat} {nx tos : List Int}
theorem it_add (nx : List Int) (x : Int) (a : Nat) : ∀ d, it nx x (a + d) = it nx (it nx x a) d
 | 0 => rfl
 | d + 1 => by
   show gi nx (it nx x (a + d)).toNat = gi nx (it nx (it nx x a) d).toNat
   rw [it_add nx x a d]
theorem it_inj {x : Int} (hp : 0 < per nx x) {i j : Nat} (hi : i < per nx x) (hj : j < per nx x) (e : it nx x i = it nx x j) : i = j := by
 obtain ⟨h1, h2⟩ := per_spec hp
 have key : ∀ i j, i < j → j < per nx x → it nx x i ≠ it nx x j := fun i j hij hj e => by
   have a := it_add nx x i (per nx x - j)
   have b := it_add nx x j (per nx x - j)
   rw [e, ← b, show j + (per nx x - j) = per nx x by omega, h1] at a
   exact h2 (i + (per nx x - j)) (by omega) (by omega) a
 rcases Nat.lt_trichotomy i j with q | q | q
 · exact absurd e (key i j q hj)
 · exact q
 · exact absurd e.symm (key j i q hi)
theorem sub_le {α : Type} [DecidableEq α] : ∀ (l m : List α), l.Nodup → (∀ x ∈ l, x ∈ m) → l.length ≤ m.length
 | [], m, _, _ => Nat.zero_le _
 | a :: l, m, hn, hs => by
   rw [List.nodup_cons] at hn
   have ha : a ∈ m := hs a (List.mem_cons_self ..)
   have h := sub_le l (m.erase a) hn.2 (fun x hx => (List.mem_erase_of_ne (fun e => hn.1 (by rw [← e]; exact hx))).2 (hs x (List.mem_cons_of_mem _ hx)))
   rw [List.length_erase_of_mem ha] at h
   have := List.length_pos_of_mem ha
   simp; omega
theorem cd_length (hw : Web n nx tos) {g : Nat} (hg : g < nx.length) : (all n nx tos (g : Int)).cd.length = n + nx.length := by
 obtain ⟨F, hF⟩ : ∃ F, F = all n nx tos (g : Int) := ⟨_, rfl⟩
 have FF : Full n nx tos (g : Int) F := by rw [hF]; exact full hw hg
 rw [← hF, FF.cd]
 clear hF
 have iE : ∀ i, i < n → In nx (gi F.ent i) := fun i hi => FF.inE i hi
 have pE : ∀ i, i < n → 0 < per nx (gi F.ent i) := fun i hi => by
   obtain ⟨k, e, hk⟩ := (iE i hi).nat
   rw [e]; exact hw.hper k hk
 have fE : ∀ i, i < n → frm tos (gi F.ent i) = gi F.ord i := fun i hi => FF.inv.c i (by rw [FF.ent]; exact hi)
 have hlen : ∀ k, ((List.range k).flatMap fun i => blk (rowF nx tos F (gi F.ent i))).length = k + ((List.range k).flatMap fun i => (List.range (per nx (gi F.ent i))).map fun j => it nx (gi F.ent i) j).length := by
   intro k
   induction k with
   | zero => rfl
   | succ k ih =>
     rw [List.range_succ, List.flatMap_append, List.flatMap_append, List.length_append, List.length_append, ih]
     simp only [List.flatMap_cons, List.flatMap_nil, List.append_nil, List.length_map, List.length_range, blk, List.length_cons, rowF_length]
     omega
 rw [hlen]
 congr 1
 have hmem : ∀ x, x ∈ ((List.range n).flatMap fun i => (List.range (per nx (gi F.ent i))).map fun j => it nx (gi F.ent i) j) ↔ In nx x := by
   intro x
   rw [List.mem_flatMap]
   constructor
   · rintro ⟨i, hi, hx⟩
     obtain ⟨j, _, rfl⟩ := List.mem_map.1 hx
     exact (iE i (List.mem_range.1 hi)).it hw j
   · intro hx
     have b := hw.fr hx
     obtain ⟨i, i1, i2, i3⟩ := FF.inv.b (frm tos x).toNat (by omega) (FF.pos _ (by omega))
     rw [FF.ord] at i1
     obtain ⟨j, j1, j2⟩ := hw.arnd (iE i i1) hx (by rw [fE i i1, i3]; omega)
     exact ⟨i, List.mem_range.2 i1, List.mem_map.2 ⟨j, List.mem_range.2 j1, j2⟩⟩
 have hnd : ((List.range n).flatMap fun i => (List.range (per nx (gi F.ent i))).map fun j => it nx (gi F.ent i) j).Nodup := by
   unfold List.Nodup
   rw [List.pairwise_flatMap]
   refine ⟨fun i hi => ?_, ?_⟩
   · have hi := List.mem_range.1 hi
     rw [List.pairwise_map]
     refine List.Pairwise.imp_of_mem ?_ (List.nodup_range (n := per nx (gi F.ent i)))
     intro a b ha hb hab e
     exact hab (it_inj (pE i hi) (List.mem_range.1 ha) (List.mem_range.1 hb) e)
   · refine List.Pairwise.imp_of_mem ?_ (List.nodup_range (n := n))
     intro a b ha hb hab x hx y hy e
     obtain ⟨j, _, rfl⟩ := List.mem_map.1 hx
     obtain ⟨k, _, rfl⟩ := List.mem_map.1 hy
     have ha := List.mem_range.1 ha
     have hb := List.mem_range.1 hb
     have := congrArg (frm tos) e
     rw [hw.fit' (iE a ha), hw.fit' (iE b hb), fE a ha, fE b hb] at this
     exact hab (full_inj FF ha hb this)
 have hR : ((List.range nx.length).map fun (x : Nat) => (x : Int)).Nodup := List.pairwise_map.2 (List.nodup_range.imp fun {a b} h e => h (by omega))
 have r1 := sub_le _ ((List.range nx.length).map fun (x : Nat) => (x : Int)) hnd (fun x hx => by
   obtain ⟨k, rfl, hk⟩ := ((hmem x).1 hx).nat
   exact List.mem_map.2 ⟨k, List.mem_range.2 hk, rfl⟩)
 have r2 := sub_le ((List.range nx.length).map fun (x : Nat) => (x : Int)) _ hR (fun x hx => by
   obtain ⟨k, hk, rfl⟩ := List.mem_map.1 hx
   have := List.mem_range.1 hk
   exact (hmem (k : Int)).2 ⟨by omega, by omega⟩)
 rw [List.length_map, List.length_range] at r1 r2
 omega
end
end Go.Proofs.Yteeihjpnhjnknaa.Seen
namespace Go.Proofs.Yteeihjpnhjnknaa.Rot
open Go.RowKit Go.Proofs.YteeihjpnhjnknaaW.PrintWords Go.Proofs.Yteeihjpnhjnknaa.Mem Go.Proofs.Yteeihjpnhjnknaa.Seen
set_option linter.unusedVariables false
set_option linter.unusedSimpArgs false
def hits (C : Nat → List Int) (c : List Int) (j : Nat) : Nat := ((List.range j).filter fun h => decide (C h = c)).length
section
variable {n : Nat} {l : List Ed} {r : List (List Int)}
theorem codes_length (h : IsMap n l r) (hp : parts n l = 1) {x : Nat} (hx : x < 2 * l.length) : (codes n l r x).length = n + 2 * l.length := by
 have := cd_length (web h hp) (g := x) (by rw [h.len]; exact hx)
 rw [h.len] at this
 exact this
end
end Go.Proofs.Yteeihjpnhjnknaa.Rot
