/- DERIVED. Texts of this seat, one behind the other: lemmas and walks that the statement RotMemory needs. No condition. -/
import Derived.Test.YtkkhhbegeboonaaCRotMemorya
import Derived.Laws.StructEq
import Derived.Test.YtkkhhbegeboonaaProg
import Derived.Below
import Derived.Deep.Draws
import Derived.Deep.AppendLies
import Derived.Maps.AppendAt
import Derived.OwnWalk
import Derived.Laws.BytesArg
import Derived.Laws.MakeOwn
import Derived.Laws.OwnMore
import Derived.Deep.OwnRows
import Derived.Tactics
import Derived.Lib.ConvBytes
import Derived.Laws.Slices
import Derived.WalkKit
import Derived.KernelRfl
import Derived.RowKit3
import Derived.Deep.LoopGhost
import Derived.Deep.QuietTactic
import Derived.BigQuiet
import Derived.WideLaws
import Derived.Deep.DeepCutAuto
import Derived.Deep.CutBlock
import Derived.Deep.RegionHeld3
import Derived.Laws.Rows
import Derived.Lib.AppendStr
import Derived.ArgAppend
import Derived.Laws.IdiomCopy
import Derived.OrdersHeld
import Derived.Laws.BitsLemmas
import Derived.RowKit
import Derived.Deep.Slices
import Derived.Deep.Onto
namespace Go.Proofs.YtkkhhbegeboonaaW.PrintLast
open Go.Proofs.YtkkhhbegeboonaaW.PrintWords (Aside0)
def needsOf (md : Region.Mode) (o : Oper) : List Nat := (o.after.toList.filter (fun e => Region.binds md e)).map (fun e => e.on)
def clashOf (md : Region.Mode) (ops : Array Oper) (i : Nat) (oi : Oper) : List Nat := (List.range ops.size).filter fun j => !(j == i) && match ops[j]? with
 | some oj => !(oj.after.any (fun e => Region.binds md e && e.on == i) || oi.apart ops oj)
 | none => false
def rtab (md : Region.Mode) (ops : Array Oper) : Bool × List (List Nat × List Nat) := (Region.noSelect ops, (List.range ops.size).map fun i => match ops[i]? with
 | some o => (needsOf md o, clashOf md ops i o)
 | none => ([], []))
def readyAt (T : List (List Nat × List Nat)) (l : List Bool) (i : Nat) : Bool := !l.getD i true && match T[i]? with
 | some r => r.1.all (fun j => l.getD j false)
 | none => false
def readyT (T : List (List Nat × List Nat)) (l : List Bool) : List Nat := (List.range T.length).filter (readyAt T l)
def freeT (T : List (List Nat × List Nat)) (l : List Bool) (i : Nat) : Bool := match T[i]? with
 | some r => r.2.all (fun j => l.getD j true)
 | none => false
def closedT (T : List (List Nat × List Nat)) (l : List Bool) : Bool := (List.range T.length).all fun j => !l.getD j false || match T[j]? with
 | some r => r.1.all (fun k => l.getD k false)
 | none => true
def reachT (T : List (List Nat × List Nat)) (i : Nat) : Nat → Nat → Bool
 | 0, _ => false
 | fuel + 1, d => match T[d]? with
  | some r => r.1.any fun j => j == i || reachT T i fuel j
  | none => false
def lastT (T : List (List Nat × List Nat)) (l : List Bool) (ds : List Nat) (i : Nat) : Bool := ds.all fun d => l.getD d true || reachT T i T.length d
section
variable {md : Region.Mode} {ops : Array Oper} {T : Bool × List (List Nat × List Nat)} {l l' li lj lk : Array Bool} {ds : List Nat} {i j k : Nat}
theorem gd (l : Array Bool) (j : Nat) (b : Bool) : l.getD j b = l.toList.getD j b := by simp [Array.getD_eq_getD_getElem?, List.getD_eq_getElem?_getD]
theorem needs_all (o : Oper) (p : Nat → Bool) : o.after.all (fun e => !Region.binds md e || p e.on) = (needsOf md o).all p := by
 unfold needsOf
 rw [← Array.all_toList]
 induction o.after.toList with
 | nil => rfl
 | cons e r ih =>
  rw [List.all_cons, ih, List.filter_cons]
  cases h : Region.binds md e <;> simp
theorem needs_any (o : Oper) (p : Nat → Bool) : o.after.any (fun e => Region.binds md e && p e.on) = (needsOf md o).any p := by
 unfold needsOf
 rw [← Array.any_toList]
 induction o.after.toList with
 | nil => rfl
 | cons e r ih =>
  rw [List.any_cons, ih, List.filter_cons]
  cases h : Region.binds md e <;> simp
theorem rtab_length : (rtab md ops).2.length = ops.size := by simp [rtab]
theorem rtab_some {o : Oper} (h : ops[i]? = some o) : (rtab md ops).2[i]? = some (needsOf md o, clashOf md ops i o) := by
 have hi := (Array.getElem?_eq_some_iff.1 h).1
 unfold rtab
 rw [List.getElem?_map, List.getElem?_range hi, Option.map_some, h]
theorem rtab_none (h : ops[i]? = none) : (rtab md ops).2[i]? = none := by
 have hi : ops.size ≤ i := Array.getElem?_eq_none_iff.1 h
 exact List.getElem?_eq_none (by rw [rtab_length]; exact hi)
theorem readyAt_eq : readyAt (rtab md ops).2 l.toList i = (!l.getD i true && ((ops[i]?).map (·.after.all fun e => !Region.binds md e || l.getD e.on false)).getD false) := by
 unfold readyAt
 rw [gd]
 cases h : ops[i]? with
 | none => rw [rtab_none h]; rfl
 | some o =>
  rw [rtab_some h]
  simp only [Option.map_some, Option.getD_some]
  rw [← needs_all]
  simp only [gd]
theorem ready_eq : Region.ready md ops l = readyT (rtab md ops).2 l.toList := by
 unfold Region.ready readyT
 rw [rtab_length]
 refine List.filter_congr (fun i _ => ?_)
 rw [readyAt_eq]
theorem free_eq : Region.free md ops l i = freeT (rtab md ops).2 l.toList i := by
 unfold Region.free freeT
 cases h : ops[i]? with
 | none => rw [rtab_none h]
 | some oi =>
  rw [rtab_some h]
  simp only [clashOf]
  rw [List.all_filter]
  congr 1
  funext j
  rw [gd]
  cases hj : ops[j]? with
  | none => cases (j == i) <;> cases (l.toList.getD j true) <;> simp
  | some oj =>
   cases (j == i) <;> cases (l.toList.getD j true) <;> cases (oj.after.any (fun e => Region.binds md e && e.on == i) || oi.apart ops oj) <;> simp_all
theorem closed_eq : Region.closedB md ops l = closedT (rtab md ops).2 l.toList := by
 unfold Region.closedB closedT
 rw [rtab_length]
 congr 1
 funext j
 rw [gd]
 cases h : ops[j]? with
 | none => rw [rtab_none h]
 | some o =>
  rw [rtab_some h]
  simp only
  rw [← needs_all]
  simp only [gd]
theorem reach_eq : ∀ (fuel d : Nat), Region.reachB md ops i fuel d = reachT (rtab md ops).2 i fuel d
 | 0, _ => rfl
 | fuel + 1, d => by
  unfold Region.reachB reachT
  cases h : ops[d]? with
  | none => rw [rtab_none h]
  | some o =>
   rw [rtab_some h]
   simp only
   rw [← needs_any]
   congr 1
   funext e
   rw [reach_eq fuel]
theorem last_eq : Region.lastB md ops l ds i = lastT (rtab md ops).2 l.toList ds i := by
 unfold Region.lastB lastT
 rw [rtab_length]
 congr 1
 funext d
 rw [gd, reach_eq]
theorem readyAt_mem (h : readyAt T.2 l.toList i = true) (hT : rtab md ops = T) : (Region.ready md ops l).contains i = true := by
 subst hT
 rw [ready_eq]
 unfold readyT
 rw [List.contains_iff_mem, List.mem_filter, List.mem_range]
 refine ⟨?_, h⟩
 unfold readyAt at h
 rw [Bool.and_eq_true] at h
 cases hq : (rtab md ops).2[i]? with
 | none => rw [hq] at h; simp at h
 | some r => exact (List.getElem?_eq_some_iff.1 hq).1
theorem set_of (h : (l.toList.set i true == l'.toList) = true) : (l.setIfInBounds i true == l') = true := by
 rw [beq_iff_eq] at h ⊢
 apply Array.ext'
 rw [Array.toList_setIfInBounds]
 exact h
def anyT (T : Bool × List (List Nat × List Nat)) (l l' : List Bool) (i : Nat) : Bool := T.1 && freeT T.2 l i && readyAt T.2 l i && (l.set i true == l')
theorem any_of (hT : rtab md ops = T) (h : anyT T l.toList l'.toList i = true) : anyB md ops l l' i = true := by
 simp only [anyT, Bool.and_eq_true] at h
 obtain ⟨⟨⟨h1, h2⟩, h3⟩, h4⟩ := h
 have h5 := readyAt_mem h3 hT
 have h6 := set_of h4
 subst hT
 simp only [anyB, Bool.and_eq_true]
 exact ⟨⟨⟨h1, by rw [free_eq]; exact h2⟩, h5⟩, h6⟩
def takeT (T : Bool × List (List Nat × List Nat)) (ds : List Nat) (l l' : List Bool) (i : Nat) : Bool := T.1 && freeT T.2 l i && readyAt T.2 l i && closedT T.2 l && lastT T.2 l ds i && (l.set i true == l')
theorem take_of (hT : rtab md ops = T) (h : takeT T ds l.toList l'.toList i = true) : takeB md ops ds l l' i = true := by
 simp only [takeT, Bool.and_eq_true] at h
 obtain ⟨⟨⟨⟨⟨h1, h2⟩, h3⟩, h4⟩, h5⟩, h6⟩ := h
 have h7 := readyAt_mem h3 hT
 have h8 := set_of h6
 subst hT
 simp only [takeB, Bool.and_eq_true]
 exact ⟨⟨⟨⟨⟨h1, by rw [free_eq]; exact h2⟩, h7⟩, by rw [closed_eq]; exact h4⟩, by rw [last_eq]; exact h5⟩, h8⟩
theorem one_of (hT : rtab md ops = T) (h : (readyT T.2 l.toList == [i] && l.toList.set i true == l'.toList) = true) : readyB md ops l l' i = true := by
 simp only [Bool.and_eq_true] at h
 obtain ⟨h1, h2⟩ := h
 subst hT
 simp only [readyB, Bool.and_eq_true]
 exact ⟨by rw [ready_eq]; exact h1, set_of h2⟩
theorem done_of (hT : rtab md ops = T) (h : (readyT T.2 l.toList == []) = true) : (Region.ready md ops l == []) = true := by
 subst hT
 rw [ready_eq]
 exact h
def upM (B : List Nat) (d : Nat) : List Nat → Nat
 | [] => 0
 | n :: r => (2 ^ n ||| (if n < d then B.getD n 0 else 0)) ||| upM B d r
def waitsOk (T : List (List Nat × List Nat)) (B : List Nat) : Bool := (List.range T.length).all fun d => match T[d]? with
 | some r => (B.getD d 0 ||| upM B d r.1) == upM B d r.1
 | none => false
theorem upM_bit {B : List Nat} {d i : Nat} : ∀ {ns : List Nat}, (upM B d ns).testBit i = true → ∃ n ∈ ns, n = i ∨ (n < d ∧ (B.getD n 0).testBit i = true)
 | [], h => by simp [upM] at h
 | n :: r, h => by
  unfold upM at h
  rw [Nat.testBit_or, Nat.testBit_or, Bool.or_eq_true, Bool.or_eq_true] at h
  rcases h with (h | h) | h
  ·rw [Nat.testBit_two_pow] at h
   exact ⟨n, List.mem_cons_self, .inl (by simpa using h)⟩
  ·by_cases hn : n < d
   ·rw [if_pos hn] at h
    exact ⟨n, List.mem_cons_self, .inr ⟨hn, h⟩⟩
   ·rw [if_neg hn] at h
    simp at h
  ·obtain ⟨m, hm, h2⟩ := upM_bit h
   exact ⟨m, List.mem_cons_of_mem _ hm, h2⟩
theorem reach_bit {T : List (List Nat × List Nat)} {B : List Nat} (hB : waitsOk T B = true) : ∀ (fuel d : Nat), d < fuel → d < T.length → (B.getD d 0).testBit i = true → reachT T i fuel d = true
 | 0, d, h, _, _ => by omega
 | fuel + 1, d, h, hd, hb => by
  have h1 := List.all_eq_true.1 hB d (List.mem_range.2 hd)
  cases hr : T[d]? with
  | none => rw [hr] at h1; simp at h1
  | some r =>
   rw [hr] at h1
   simp only [beq_iff_eq] at h1
   have h2 : (upM B d r.1).testBit i = true := by rw [← h1, Nat.testBit_or, hb, Bool.true_or]
   obtain ⟨n, hn, h3⟩ := upM_bit h2
   unfold reachT
   rw [hr]
   simp only
   rw [List.any_eq_true]
   refine ⟨n, hn, ?_⟩
   rcases h3 with rfl | ⟨h4, h5⟩
   ·simp
   ·rw [reach_bit hB fuel n (by omega) (by omega) h5, Bool.or_true]
def lastW (T : List (List Nat × List Nat)) (B : List Nat) (l : List Bool) (ds : List Nat) (i : Nat) : Bool := ds.all fun d => l.getD d true || (decide (d < T.length) && (B.getD d 0).testBit i)
def takeW (T : Bool × List (List Nat × List Nat)) (B : List Nat) (ds : List Nat) (l l' : List Bool) (i : Nat) : Bool := T.1 && freeT T.2 l i && readyAt T.2 l i && closedT T.2 l && lastW T.2 B l ds i && (l.set i true == l')
theorem take_ofW {B : List Nat} (hT : rtab md ops = T) (hB : waitsOk T.2 B = true) (h : takeW T B ds l.toList l'.toList i = true) : takeB md ops ds l l' i = true := by
 refine take_of hT ?_
 simp only [takeW, takeT, Bool.and_eq_true] at h ⊢
 obtain ⟨⟨⟨⟨⟨h1, h2⟩, h3⟩, h4⟩, h5⟩, h6⟩ := h
 refine ⟨⟨⟨⟨⟨h1, h2⟩, h3⟩, h4⟩, ?_⟩, h6⟩
 unfold lastW at h5
 unfold lastT
 rw [List.all_eq_true] at h5 ⊢
 intro d hd
 have h7 := h5 d hd
 rw [Bool.or_eq_true, Bool.and_eq_true, decide_eq_true_eq] at h7
 rcases h7 with h7 | ⟨h8, h9⟩
 ·rw [h7, Bool.true_or]
 ·rw [reach_bit hB _ d h8 h8 h9, Bool.or_true]
theorem with_tabW {P : Program} {Q : Exit → Act → World → Prop} {S : World → Prop} {n : Nat} {a : Act} {w : World} {B : List Nat} (hT : rtab md ops = T) (hB : waitsOk T.2 B = true) (h : Aside0 (rtab md ops = T) → Aside0 (waitsOk T.2 B = true) → wpAnyLast P md ops Q S ds n l a w) : wpAnyLast P md ops Q S ds n l a w := h ⟨hT⟩ ⟨hB⟩
end
def opsIn : Code → Nat → Option (Array Oper)
 | .region id ops _, k => if id == k then some ops else none
 | .seq a b, k => match opsIn a k with
  | some o => some o
  | none => opsIn b k
 | .cond _ a b, k => match opsIn a k with
  | some o => some o
  | none => opsIn b k
 | .block _ c, k => opsIn c k
 | .loop c, k => opsIn c k
 | .scope c, k => opsIn c k
 | .rangeFunc _ _ a b, k => match opsIn a k with
  | some o => some o
  | none => opsIn b k
 | _, _ => none
def opsOf (f : Func) (k : Nat) : Array Oper := ((f.body.bind fun c => opsIn c k)).getD #[]
end Go.Proofs.YtkkhhbegeboonaaW.PrintLast
namespace Go.Proofs.YtkkhhbegeboonaaW.PrintLast
section
variable {P : Program} {ops : Array Oper} {Q : Exit → Act → World → Prop} {md : Region.Mode} {S : World → Prop} {ds : List Nat} {T : Bool × List (List Nat × List Nat)}
end
end Go.Proofs.YtkkhhbegeboonaaW.PrintLast
namespace Go.Proofs.YtkkhhbegeboonaaW.PrintWords
open Go.RowKit
namespace Kd
section
variable {α : Type} {d : Kd α} {e base g o n cap : Nat} {ok okp : Nat → Prop} {w W : World} {v : Value} {xs : List α}
end
section
variable {α : Type} {enc : α → Value} {h1 : ∀ x, (enc x).oneCell' = true} {e base g o n cap : Nat} {ok : Nat → Prop} {W : World} {xs : List α}
end
end Kd
end Go.Proofs.YtkkhhbegeboonaaW.PrintWords
namespace Go.Proofs.YtkkhhbegeboonaaW.PrintWords
open Go.RowKit
namespace Kd
def tag {α : Type} (f : Nat → Nat) (d : Kd α) : Kd (α × Nat) where
 sz := d.sz
 E := d.E
 K := fun w x cs => d.K w x.1 cs
 M := fun w base ok x cs => d.M w base (fun k => ok k ∧ f k = x.2) x.1 cs
 K_len := fun h => d.K_len h
 K_one := fun h => d.K_one h
 K_below := fun hb h => d.K_below hb h
 K_of_M := fun h => d.K_of_M h
 M_mono := fun hok h => d.M_mono (fun k hk => ⟨hok k hk.1, hk.2⟩) h
 M_bound := fun h => d.M_mono (fun _ hk => ⟨⟨hk.1.1, hk.2⟩, hk.1.2⟩) (d.M_bound h)
 M_move := fun hm h => d.M_move (fun k hk => hm k hk.1) h
 M_lower := fun hb h => d.M_lower hb h
def bare {α : Type} (d : Kd α) : Kd α where
 sz := d.sz
 E := d.E
 K := d.K
 M := fun w base _ x cs => d.M w base (fun _ => False) x cs
 K_len := fun h => d.K_len h
 K_one := fun h => d.K_one h
 K_below := fun hb h => d.K_below hb h
 K_of_M := fun h => d.K_of_M h
 M_mono := fun _ h => h
 M_bound := fun h => h
 M_move := fun _ h => d.M_move (fun _ hk => hk.elim) h
 M_lower := fun hb h => d.M_lower hb h
def raw (sz : Nat) : Kd (List Value) where
 sz := sz
 E := []
 K := fun _ x cs => cs = x ∧ cs.length = sz ∧ ∀ u ∈ cs, u.oneCell' = true
 M := fun _ _ _ x cs => cs = x ∧ cs.length = sz ∧ ∀ u ∈ cs, u.oneCell' = true
 K_len := fun h => h.2.1
 K_one := fun h => h.2.2
 K_below := fun _ h => h
 K_of_M := fun h => h
 M_mono := fun _ h => h
 M_bound := fun h => h
 M_move := fun _ h => h
 M_lower := fun _ h => h
def S {α : Type} (d : Kd α) (e : Nat) (w : World) (base : Nat) (ok : Nat → Prop) (v : Value) (xs : List α) : Prop := ∃ f, (tag f d).R e w base ok v xs.zipIdx
section
variable {α β : Type} {d : Kd α} {d' : Kd β} {e e' : Nat} {w w1 W : World} {base b : Nat} {ok ok' okv oku : Nat → Prop} {u v : Value} {xs : List α} {ys : List β}
theorem zip_at {xs : List α} {j : Nat} {p : α} (h : xs[j]? = some p) : xs.zipIdx[j]? = some (p, j) := by rw [List.getElem?_zipIdx, h, Nat.zero_add]; rfl
theorem S_R (h : S d e w base ok v xs) : d.R e w base ok v xs := by
 obtain ⟨f, h0, inner, ho, hr⟩ := h
 rw [List.length_zipIdx] at ho
 exact ⟨h0, inner, ho, by have := hr.1; rw [List.length_zipIdx] at this; exact this, fun j p hj => d.M_mono (fun _ hk => hk.1) (hr.2 j (p, j) (zip_at hj))⟩
theorem R_head {ad : Addr} {n cap : Nat} (h : d.R e w base ok (.slice (some ad) n cap) xs) : ∃ g, ad = ⟨g, 0, none⟩ := by
 obtain ⟨_, inner, ho, hr⟩ := h
 rcases ho.2 with ⟨hv, _⟩ | ⟨g, cap', cur, hv, _⟩
 ·cases hv
 ·injection hv with ha _ _
  injection ha with ha
  exact ⟨g, ha⟩
theorem R_tight (hE : d.E = []) (h : d.R e w base ok v xs) : d.R e w base (fun k => some k = v.ownBlock) v xs := by
 obtain ⟨h0, inner, ho, hr⟩ := h
 refine ⟨fun k hk => hk.symm, inner, ho, hr.imp_ (fun p c hp => d.M_mono (fun k hk => ?_) (d.M_bound hp))⟩
 obtain ⟨_, _, _, q, hq, _⟩ := hk
 rw [hE] at hq
 cases hq
theorem S_nil (d : Kd α) (e : Nat) (w : World) (base : Nat) (ok : Nat → Prop) : S d e w base ok (.slice none 0 0) [] := ⟨fun _ => 0, R_nil _ _ _ _ _⟩
theorem S_mono (h : S d e w base ok v xs) (hok : ∀ k, ok k → ok' k) : S d e w base ok' v xs := by
 obtain ⟨f, h⟩ := h
 exact ⟨f, R_mono h hok⟩
theorem S_bound (h : S d e w base ok v xs) : S d e w base (fun k => ok k ∧ base ≤ k ∧ k < w.heap.size ∧ ∃ q, q ∈ e :: d.E ∧ ∃ cells, w.heap[k]? = some (.cells cells q (0, 0))) v xs := by
 obtain ⟨f, h⟩ := h
 exact ⟨f, R_bound h⟩
theorem S_move (h : S d e w base ok v xs) (hm : ∀ k, ok k → w1.heap[k]? = w.heap[k]?) : S d e w1 base ok v xs := by
 obtain ⟨f, h⟩ := h
 exact ⟨f, R_move h hm⟩
theorem S_lower {base' : Nat} (h : S d e w base ok v xs) (hb : base' ≤ base) : S d e w base' ok v xs := by
 obtain ⟨f, h⟩ := h
 exact ⟨f, R_lower h hb⟩
theorem S_step (h : S d e w base ok v xs) (hm : ∀ k, ok k → k < w.heap.size → w1.heap[k]? = w.heap[k]?) : S d e w1 base ok v xs :=
 S_mono (S_move (S_bound h) (fun k hk => hm k hk.1 hk.2.2.1)) (fun _ hk => hk.1)
theorem S_below (h : S d e w base ok v xs) (hb : Below w.heap.size w w1) : S d e w1 base ok v xs := S_step h (fun k _ hk => hb.block k hk)
theorem S_alloc (h : S d e w base ok v xs) (o : Obj) : S d e (w.alloc o) base ok v xs := S_below h (below_alloc (Below.refl _ _) o)
theorem S_drew (h : S d e w base ok v xs) : S d e w.drew base ok v xs := S_below h (below_drew (Below.refl _ _))
theorem S_drewN (h : S d e w base ok v xs) (m : Nat) : S d e (w.drewN m) base ok v xs := S_below h (pw_below_drewN (Below.refl _ _) m)
theorem S_typed (h : S d e w base ok v xs) : ∀ k, v.ownBlock = some k → ∃ cells, w.heap[k]? = some (.cells cells e (0, 0)) := R_typed (S_R h)
theorem S_lt (h : S d e w base ok v xs) : ∀ k, v.ownBlock = some k → k < w.heap.size := R_lt (S_R h)
theorem S_base (h : S d e w base ok v xs) : ∀ k, v.ownBlock = some k → base ≤ k := R_base (S_R h)
theorem S_elder' (h : S d e W base ok u xs) (hbase : ∀ k, v.ownBlock = some k → W.heap.size ≤ k) (hb : Below W.heap.size W w1) : S d e w1 base (fun k => ok k ∧ some k ≠ v.ownBlock) u xs := by
 obtain ⟨f, h⟩ := h
 exact ⟨f, R_elder' h hbase hb⟩
theorem S_after {v1 : Value} (h : S d e W base (fun k => ok k ∧ some k ≠ v.ownBlock) u xs) (hg : W.grownBy w1 v.ownBlock) (hat : v1.ownBlock = v.ownBlock ∨ ∃ b, v1.ownBlock = some b ∧ W.heap.size ≤ b) : S d e w1 base (fun k => ok k ∧ some k ≠ v1.ownBlock) u xs := by
 obtain ⟨f, h⟩ := h
 exact ⟨f, R_after h hg hat⟩
theorem R_tag {f f' : Nat → Nat} {zs : List (α × Nat)} (h : (tag f d).R e w base ok v zs) (hf : ∀ k, ok k → k < w.heap.size → f' k = f k) : (tag f' d).R e w base ok v zs := by
 obtain ⟨h0, inner, ho, hr⟩ := R_bound h
 exact ⟨fun k hk => (h0 k hk).1, inner, ho, hr.1, fun j p hj => d.M_mono (fun k hk => ⟨⟨hk.1.1.1, hk.1.2⟩, (hf k hk.1.1.1 hk.1.1.2.2.1).trans hk.2⟩) (hr.2 j p hj)⟩
end
section
variable {α β : Type} {d : Kd α} {d' : Kd β} {e e' g : Nat} {w w1 W : World} {base b : Nat} {ok ok' okv oku : Nat → Prop} {u v : Value} {xs : List α} {ys : List β}
theorem S_ne (h : S d e w base ok v xs) {t : Nat} {cells : Array Value} (hb : w.heap[g]? = some (.cells cells t (0, 0))) (ht : e ≠ t) : some g ≠ v.ownBlock := R_ne (S_R h) hb ht
theorem S_reads (h : S d e w base ok v xs) : ∃ A c, v = .slice A xs.length c ∧ xs.length ≤ c ∧ d.C w A xs.length xs := R_reads (S_R h)
theorem S_reads' {A : Option Addr} {n c : Nat} (h : S d e w base ok (.slice A n c) xs) : n = xs.length ∧ n ≤ c ∧ d.C w A xs.length xs := R_reads' (S_R h)
theorem zip_snoc (xs : List α) (p : α) : (xs ++ [p]).zipIdx = xs.zipIdx ++ [(p, xs.length)] := by rw [List.zipIdx_append]; simp
end
section
open Classical in
theorem S_tag {α : Type} {d : Kd α} {e base : Nat} {okv : Nat → Prop} {w : World} {v : Value} {xs : List α} (h : S d e w base okv v xs) (m : Nat) (okp : Nat → Prop) (hap : ∀ k, okp k → ¬ okv k) : ∃ f, (∀ k, okp k → f k = m) ∧ (tag f d).R e w base okv v xs.zipIdx := by
 obtain ⟨f, h⟩ := h
 exact ⟨fun k => if okp k then m else f k, fun k hk => if_pos hk, R_tag h (fun k hk _ => if_neg (fun h2 => hap k h2 hk))⟩
variable {P : Program} {ops : Array Oper} {rest : List Oper} {o : Oper} {a : Act} {Q : Exit → Act → World → Prop} {Kc : Act → World → Prop} {α : Type}
theorem S_append (d : Kd α) {w0 W : World} (base : Nat) (hgd : o.guard = none) (s x : Operand) (t e : TypeId) (z : Value) (bytes : Nat)
  (ho : o.op = .call { callee := .builtin .append, args := #[s, x], argTypes := #[t, t] })
  (ht : P.underlying t = some (.slice e)) (hinfo : (P.info? e).map (fun i => (i.zero, i.size, i.bytes)) = some (some z, d.sz, bytes)) (hz : z.cells.size = d.sz) (hs0 : 0 < d.sz) (hb0 : 0 < bytes)
  (v : Value) (xs : List α) (p : α) (cs : List Value) (ok okp : Nat → Prop) (hs : a.eval s = v) (hx : a.eval x = .slice (some ⟨W.heap.size, 0, none⟩) 1 1) (hp : d.M W base okp p cs) (hokp : ∀ k, okp k → ok k ∧ some k ≠ v.ownBlock) (hfresh : ∀ k, W.heap.size ≤ k → ok k)
  (HO : S d e W base (fun k => ok k ∧ ¬ okp k) v xs) (HB : Below base w0 W) (hbase : base ≤ W.heap.size) (hl : (xs.length + 1) * bytes ≤ 140737488355328)
  (h : ∀ v1 w1, S d e w1 base ok v1 (xs ++ [p]) → Below base w0 w1 → W.grownBy w1 v.ownBlock → (v1.ownBlock = v.ownBlock ∨ ∃ b, v1.ownBlock = some b ∧ W.heap.size ≤ b) → wpList P ops Q rest (a.put o.dst v1) w1) :
  wpList P ops Q (o :: rest) a (W.alloc (.cells cs.toArray e)) := by
 obtain ⟨f, hf, hR⟩ := S_tag HO xs.length okp (fun _ hk h2 => h2.2 hk)
 refine R_append (tag f d) base hgd s x t e z bytes ho ht hinfo hz hs0 hb0 v xs.zipIdx (p, xs.length) cs ok okp hs hx (d.M_mono (fun k hk => ⟨hk, hf k hk⟩) hp) hokp hfresh (R_mono hR (fun _ hk => hk.1)) HB hbase (by rw [List.length_zipIdx]; exact hl) ?_
 intro v1 w1 hr
 rw [← zip_snoc] at hr
 exact h v1 w1 ⟨f, hr⟩
end
def gap {α : Type} (f : Nat → Nat) (d : Kd α) (i : Nat) (c : List Value) : Kd (α × Nat) where
 sz := d.sz
 E := d.E
 K := fun w x cs => (x.2 = i → cs = c ∧ cs.length = d.sz ∧ ∀ u ∈ cs, u.oneCell' = true) ∧ (x.2 ≠ i → d.K w x.1 cs)
 M := fun w base ok x cs => (x.2 = i → cs = c ∧ cs.length = d.sz ∧ ∀ u ∈ cs, u.oneCell' = true) ∧ (x.2 ≠ i → d.M w base (fun k => ok k ∧ f k = x.2) x.1 cs)
 K_len := fun {w x cs} h => by
  by_cases hx : x.2 = i
  ·exact (h.1 hx).2.1
  ·exact d.K_len (h.2 hx)
 K_one := fun {w x cs} h => by
  by_cases hx : x.2 = i
  ·exact (h.1 hx).2.2
  ·exact d.K_one (h.2 hx)
 K_below := fun hb h => ⟨h.1, fun hx => d.K_below hb (h.2 hx)⟩
 K_of_M := fun h => ⟨h.1, fun hx => d.K_of_M (h.2 hx)⟩
 M_mono := fun hok h => ⟨h.1, fun hx => d.M_mono (fun k hk => ⟨hok k hk.1, hk.2⟩) (h.2 hx)⟩
 M_bound := fun h => ⟨h.1, fun hx => d.M_mono (fun _ hk => ⟨⟨hk.1.1, hk.2⟩, hk.1.2⟩) (d.M_bound (h.2 hx))⟩
 M_move := fun hm h => ⟨h.1, fun hx => d.M_move (fun k hk => hm k hk.1) (h.2 hx)⟩
 M_lower := fun hb h => ⟨h.1, fun hx => d.M_lower hb (h.2 hx)⟩
def H {α : Type} (d : Kd α) (e : Nat) (w : World) (base : Nat) (ok : Nat → Prop) (v : Value) (xs : List α) (i : Int) (oki : Nat → Prop) (c : List Value) : Prop :=
 (∀ k, oki k → ok k) ∧ ∃ f, (gap f d i.toNat c).R e w base (fun k => ok k ∧ ¬ oki k) v xs.zipIdx
section
variable {α β : Type} {d : Kd α} {e e' g n cap : Nat} {w w1 W : World} {base : Nat} {ok ok' oki okp : Nat → Prop} {u v : Value} {xs : List α} {i : Int} {c : List Value}
open Classical in
end
section
variable {P : Program} {ops : Array Oper} {rest : List Oper} {o : Oper} {a : Act} {Q : Exit → Act → World → Prop} {α : Type}
end
end Kd
end Go.Proofs.YtkkhhbegeboonaaW.PrintWords
namespace Go.Proofs.YtkkhhbegeboonaaW.PrintWords
open Go.RowKit
namespace Kd
theorem reps_one {α : Type} {R : α → List Value → Prop} {size : Nat} {ps : List α} {cs : List Value} (h : Reps R size ps cs) (hs0 : 0 < size) (hR : ∀ p c, R p c → ∀ u ∈ c, u.oneCell' = true) : ∀ u ∈ cs, u.oneCell' = true := by
 intro u hu
 obtain ⟨q, hq, rfl⟩ := List.mem_iff_getElem.1 hu
 have hql : q / size < ps.length := by
  rw [Nat.div_lt_iff_lt_mul hs0, ← h.1]
  exact hq
 refine hR _ _ (h.2 (q / size) _ (List.getElem?_eq_getElem hql)) _ ?_
 rw [List.mem_iff_getElem?]
 refine ⟨q % size, ?_⟩
 rw [List.getElem?_take, if_pos (Nat.mod_lt _ hs0), List.getElem?_drop, Nat.mul_comm, Nat.div_add_mod, List.getElem?_eq_getElem hq]
def arr {α : Type} (n : Nat) (d : Kd α) (hs : 0 < d.sz) : Kd (List α) where
 sz := n * d.sz
 E := d.E
 K := fun w xs cs => xs.length = n ∧ Reps (d.K w) d.sz xs cs
 M := fun w base ok xs cs => xs.length = n ∧ Reps (d.M w base ok) d.sz xs cs
 K_len := fun h => by rw [← h.1]; exact h.2.1
 K_one := fun h => reps_one h.2 hs (fun _ _ hk => d.K_one hk)
 K_below := fun hb h => ⟨h.1, h.2.imp_ (fun _ _ hk => d.K_below hb hk)⟩
 K_of_M := fun h => ⟨h.1, h.2.imp_ (fun _ _ hk => d.K_of_M hk)⟩
 M_mono := fun hok h => ⟨h.1, h.2.imp_ (fun _ _ hk => d.M_mono hok hk)⟩
 M_bound := fun h => ⟨h.1, h.2.imp_ (fun _ _ hk => d.M_bound hk)⟩
 M_move := fun hm h => ⟨h.1, h.2.imp_ (fun _ _ hk => d.M_move hm hk)⟩
 M_lower := fun hb h => ⟨h.1, h.2.imp_ (fun _ _ hk => d.M_lower hb hk)⟩
section
variable {α : Type} {n : Nat} {d : Kd α} {hs : 0 < d.sz} {w : World} {base : Nat} {ok : Nat → Prop} {xs : List α} {cs : List Value}
end
section
variable {α : Type} {n : Nat} {enc : α → Value} {h1 : ∀ x, (enc x).oneCell' = true} {hs : 0 < (scalar enc h1).sz} {w : World} {base : Nat} {ok : Nat → Prop} {xs : List α} {cs : List Value}
end
end Kd
end Go.Proofs.YtkkhhbegeboonaaW.PrintWords
namespace Go.Proofs.YtkkhhbegeboonaaW.PrintWords
open Go.RowKit
section
variable {P : Program}
theorem run_append_zeros (w : World) (base : Nat) (t ti ty e : TypeId) (i : TypeInfo) (z : Value) (size bytes : Nat) (ht : P.underlying t = some (.slice e)) {k : IntKind} (hti : P.underlying ti = some (.int k)) (hi : P.info? e = some i) (hz : i.zero = some z)
  (hsize : i.size = size) (hby : i.bytes = bytes) (hzs : z.cells.size = size) (hsz : 0 < size) (hb0 : 0 < bytes)
  (v : Value) (n : Nat) (xs : List Value) (hown : w.ownsRow base e size v n xs) (kx : IntKind) (m : Nat) (h1 : ∀ u ∈ (Builtin.zeroCells z.cells m).toList, u.oneCell' = true)
  (hbytes : (n + m) * bytes ≤ 140737488355328) (hbase : base ≤ w.heap.size) :
  ∃ v' w', (Builtin.append_ #[t, ti] ty #[v, .int kx m]).run P w = .ok v' w' ∧ w'.ownsRow base e size v' (n + m) (xs ++ (Builtin.zeroCells z.cells m).toList) ∧ w.grownBy w' v.ownBlock ∧
   (v'.ownBlock = v.ownBlock ∨ v'.ownBlock = some w.heap.size) := by
 subst hsize
 subst hby
 have hle : n + m ≤ 140737488355328 := Nat.le_trans (Nat.le_mul_of_pos_right _ hb0) hbytes
 have h63 : n + m ≤ maxLen := by simp only [maxLen]; omega
 have hw : IntKind.i64.wrap (m : Int) = m := by rw [IntKind.wrap_i64]; omega
 have hw0 : IntKind.i64.wrap 0 = 0 := by rw [IntKind.wrap_i64]; rfl
 have hneg : ¬ ((m : Int) < 0) := by omega
 have hmb : m * i.bytes ≤ 140737488355328 := Nat.le_trans (Nat.mul_le_mul_right _ (Nat.le_add_left m n)) hbytes
 have hbig : ¬ (281474976710656 < (m : Int) * (i.bytes : Int)) := by
  rw [← Int.natCast_mul]
  omega
 have hsn : i.size ≠ 0 := by omega
 obtain ⟨news, hnews⟩ : ∃ news, news = (Builtin.zeroCells z.cells m).toList := ⟨_, rfl⟩
 rw [← hnews] at h1 ⊢
 have hl : news.length = m * i.size := by rw [hnews, Array.length_toList, size_zeroCells, hzs]
 have hna : Builtin.zeroCells z.cells m = news.toArray := by rw [hnews]
 have hlen : (xs ++ news).length = (n + m) * i.size := by rw [List.length_append, hown.1, hl, Nat.add_mul]
 have hnil : m = 0 → news = [] := fun h => List.eq_nil_of_length_eq_zero (by rw [hl, h, Nat.zero_mul])
 have grown : ∀ (old : Nat), old < n + m → ∀ (row : Option Nat),
   (w.drew.alloc (.cells (xs.toArray ++ news.toArray ++ Builtin.zeroCells z.cells (grownCap w (n + m) old e - (n + m))) e)).ownsRow base e i.size
    (.slice (some ⟨w.heap.size, 0, none⟩) (n + m) (grownCap w (n + m) old e)) (n + m) (xs ++ news) ∧
   w.grownBy (w.drew.alloc (.cells (xs.toArray ++ news.toArray ++ Builtin.zeroCells z.cells (grownCap w (n + m) old e - (n + m))) e)) row := by
  intro old ho row
  have hge := grownCap_ge w (n + m) old e
  have hcm : grownCap w (n + m) old e ≤ maxLen := grownCap_le_maxLen w (n + m) old e h63
  refine ⟨⟨hlen, .inr ⟨w.heap.size, _, _, rfl, hbase, heap_alloc_new w.drew _, hge, hcm, ?_, ?_⟩⟩, ⟨rfl, rfl, rfl, by simp, fun k hk _ => heap_alloc_old w.drew _ hk⟩⟩
  ·simp only [Array.size_append, List.size_toArray, size_zeroCells, hzs, hown.1, hl, ← Nat.add_mul]
   congr 1
   omega
  ·simp only [Array.toList_append, List.append_assoc]
   rw [← List.append_assoc, ← hlen]
   exact List.take_left
 have runs : ∀ (A : Option Addr) (cap : Nat), cap < n + m → (Builtin.firstCells i.size n (.slice A n cap)).run P w.drew = .ok xs.toArray w.drew → (Builtin.append_ #[t, ti] ty #[.slice A n cap, .int kx m]).run P w =
   .ok (.slice (some ⟨w.heap.size, 0, none⟩) (n + m) (grownCap w (n + m) cap e)) (w.drew.alloc (.cells (xs.toArray ++ news.toArray ++ Builtin.zeroCells z.cells (grownCap w (n + m) cap e - (n + m))) e)) := by
  intro A cap hcap hfo
  have hn : ¬ (n + m ≤ cap) := by omega
  have h63' : ¬ (9223372036854775807 < ((n : Int) + (m : Int))) := by omega
  have hfit := growslice_fits hcap hbytes
  have h48' : ¬ (281474976710656 < Builtin.nextslicecap (n + m) cap * i.bytes) := by omega
  by_cases hm : m = 0
  ·have hnl := hnil hm
   subst hm
   rw [hnl]
   simp only [Nat.add_zero] at hn h63' h48' ⊢
   have h63'' : ¬ (9223372036854775807 < (n : Int)) := by omega
   simp [Builtin.append_, run_underlying ht, run_underlying hti, sizeOf, typeInfo, zeroValue, hi, hz, asInt, asIntOf, hw0, hn, h63'', h48', Question.forced, hfo, newRow, grownCap]
  ·have hmz : ¬ (m * i.size = 0) := Nat.mul_ne_zero hm hsn
   simp [Builtin.append_, run_underlying ht, run_underlying hti, sizeOf, typeInfo, zeroValue, hi, hz, asInt, asIntOf, hw, hneg, hbig, hn, h63', h48', Question.forced, hfo, newRow, grownCap, hmz, hna]
   congr 2
   apply Array.ext'
   simp [List.append_assoc]
 rcases hown.2 with ⟨rfl, rfl⟩ | ⟨g, cap, cur, rfl, hbg, hg, hnc, hcm, hcs, htake⟩
 ·have hx : xs = [] := List.eq_nil_of_length_eq_zero (by simpa using hown.1)
  subst hx
  by_cases hm : m = 0
  ·have hnl := hnil hm
   subst hm
   rw [hnl]
   refine ⟨.slice none 0 0, w, ?_, World.ownsRow_nil w base e i.size, ⟨rfl, rfl, rfl, Nat.le_refl _, fun _ _ _ => rfl⟩, Or.inl rfl⟩
   simp [Builtin.append_, run_underlying ht, run_underlying hti, sizeOf, typeInfo, hi, asInt, asIntOf, hw0]
  ·have hgr := grown 0 (by omega) (Value.ownBlock (.slice none 0 0))
   exact ⟨_, _, runs none 0 (by omega) (by simp [Builtin.firstCells]), hgr.1, hgr.2, Or.inr rfl⟩
 ·by_cases hroom : n + m ≤ cap
  ·have hfit : n * i.size + news.length ≤ cur.size := by rw [hl, hcs, ← Nat.add_mul]; exact Nat.mul_le_mul_right _ hroom
   obtain ⟨cur', h3, h4, h5⟩ := setCells_row news (n * i.size) w cur hg hfit
   obtain ⟨s1, s2, s3, s4⟩ := setCells_same g news (n * i.size) w
   have hst := run_storeCells_cells (P := P) g (n * i.size) news 0 w (fun j hj => by rw [cell_of_row w g _ cur e (0, 0) hg]; simp; omega) (fun j _ => blk_frozen hg _) h1
   simp only [Nat.add_zero] at hst
   refine ⟨.slice (some ⟨g, 0, none⟩) (n + m) cap, w.setCells g (n * i.size) news, ?_, ⟨hlen, .inr ⟨g, cap, cur', rfl, hbg, h3, hroom, hcm, by rw [h4, hcs], ?_⟩⟩, ⟨s1, s2, s3, by rw [s4]; exact Nat.le_refl _, fun k _ hk => setCells_far news _ k (fun e => hk (by simp [Value.ownBlock, e]))⟩, Or.inl rfl⟩
   ·by_cases hm : m = 0
    ·have hnl := hnil hm
     subst hm
     rw [hnl] at hst ⊢
     simp [Builtin.append_, run_underlying ht, run_underlying hti, sizeOf, typeInfo, hi, asInt, asIntOf, hw0, hnc, add_plain, hst]
    ·have hmz : ¬ (m * i.size = 0) := Nat.mul_ne_zero hm hsn
     simp [Builtin.append_, run_underlying ht, run_underlying hti, sizeOf, typeInfo, zeroValue, hi, hz, asInt, asIntOf, hw, hneg, hbig, hroom, hmz, hna, add_plain, hst]
   ·rw [h5]
    have h6 : cur.toList.take (n * i.size) = xs := htake
    rw [h6, ← hlen]
    exact List.take_left
  ·have holds : ∀ j u, xs[j]? = some u → w.cell? ((⟨g, 0, none⟩ : Addr).add j) = some u := hown.cells (g := g) rfl
   have hgr := grown cap (by omega) (Value.ownBlock (.slice (some ⟨g, 0, none⟩) n cap))
   exact ⟨_, _, runs (some ⟨g, 0, none⟩) cap (by omega) (run_firstCells_some (P := P) w.drew i.size n _ n cap xs hown.1 (by simpa using holds)), hgr.1, hgr.2, Or.inr rfl⟩
end
namespace Kd
theorem reps_zeros {α : Type} {R : α → List Value → Prop} {z : Value} {size : Nat} {z0 : α} (hz : z.cells.size = size) (hs : 0 < size) (h0 : R z0 z.cells.toList) (m : Nat) : Reps R size (List.replicate m z0) (Builtin.zeroCells z.cells m).toList := by
 have h := reps_made hz hs h0 m
 rw [show Builtin.zeroCells z.cells m = madeCells z.cells (m * size) by unfold Builtin.zeroCells madeCells; rw [hz]]
 exact h
section
variable {P : Program} {ops : Array Oper} {rest : List Oper} {o : Oper} {a : Act} {Q : Exit → Act → World → Prop} {Kc : Act → World → Prop} {α : Type}
theorem R_zeros_run (d : Kd α) {W : World} (base : Nat) (t ti ty e : TypeId) (z : Value) (bytes : Nat) (ht : P.underlying t = some (.slice e)) {k : IntKind} (hti : P.underlying ti = some (.int k)) (hinfo : (P.info? e).map (fun i => (i.zero, i.size, i.bytes)) = some (some z, d.sz, bytes)) (hz : z.cells.size = d.sz) (hs0 : 0 < d.sz) (hb0 : 0 < bytes)
  (v : Value) (xs : List α) (z0 : α) {ok : Nat → Prop} (hzero : d.M W base (fun _ => False) z0 z.cells.toList) (hfresh : ∀ k, W.heap.size ≤ k → ok k) (HO : d.R e W base ok v xs) (kx : IntKind) (n : Int) (h0 : 0 ≤ n) (hl : (xs.length + n.toNat) * bytes ≤ 140737488355328) (hbase : base ≤ W.heap.size) :
  ∃ v1 w1, (Builtin.append_ #[t, ti] ty #[v, .int kx n]).run P W = .ok v1 w1 ∧ d.R e w1 base ok v1 (xs ++ List.replicate n.toNat z0) ∧ W.grownBy w1 v.ownBlock ∧ (v1.ownBlock = v.ownBlock ∨ ∃ b, v1.ownBlock = some b ∧ W.heap.size ≤ b) := by
 obtain ⟨m, rfl⟩ := Int.eq_ofNat_of_zero_le h0
 simp only [Int.toNat_natCast] at hl ⊢
 obtain ⟨i0, hi, hzz⟩ := Option.map_eq_some_iff.1 hinfo
 simp only [Prod.mk.injEq] at hzz
 obtain ⟨hz0, hz1, hz2⟩ := hzz
 obtain ⟨hok, inner, hown, hr⟩ := HO
 have hnM : Reps (d.M W base (fun _ => False)) d.sz (List.replicate m z0) (Builtin.zeroCells z.cells m).toList := reps_zeros hz hs0 hzero m
 obtain ⟨v1, w1, hrun, h2, hg, hat⟩ := run_append_zeros (P := P) W base t ti ty e i0 z d.sz bytes ht hti hi hz0 hz1 hz2 hz hs0 hb0 v xs.length inner hown kx m (reps_one hnM hs0 (fun _ _ hp => d.K_one (d.K_of_M hp))) hl hbase
 have hat' : v1.ownBlock = v.ownBlock ∨ ∃ b, v1.ownBlock = some b ∧ W.heap.size ≤ b := by
  rcases hat with hat | hat
  ·exact .inl hat
  ·exact .inr ⟨_, hat, Nat.le_refl _⟩
 have hne : ∀ k, some k ≠ v.ownBlock → k < W.heap.size → some k ≠ v1.ownBlock := by
  intro k hk hlt
  rcases hat' with hat | ⟨b, hb, hle⟩
  ·rw [hat]; exact hk
  ·rw [hb]
   intro he
   injection he with he
   omega
 have step : ∀ {q : α} {c : List Value} {o : Nat → Prop}, d.M W base o q c → (∀ k, o k → ok k ∧ some k ≠ v.ownBlock) → d.M w1 base (fun k => ok k ∧ some k ≠ v1.ownBlock) q c := by
  intro q c o hq ho
  have h1 := d.M_move (w1 := w1) (fun k hk => hg.block k hk.2.2.1 (ho k hk.1).2) (d.M_bound hq)
  exact d.M_mono (fun k hk => ⟨(ho k hk.1).1, hne k (ho k hk.1).2 hk.2.2.1⟩) h1
 refine ⟨v1, w1, hrun, ⟨fun k hk => ?_, inner ++ (Builtin.zeroCells z.cells m).toList, by rw [List.length_append, List.length_replicate]; exact h2, reps_append (hr.imp_ (fun _ _ hq => step hq (fun _ hk => hk))) (hnM.imp_ (fun _ _ hq => step hq (fun _ hk => hk.elim)))⟩, hg, hat'⟩
 rcases hat' with hat | ⟨b, hb, hle⟩
 ·exact hok k (hat ▸ hk)
 ·rw [hb] at hk
  injection hk with hk
  exact hfresh k (by omega)
theorem R_append_zeros (d : Kd α) {w0 W : World} (base : Nat) (hgd : o.guard = none) (s x : Operand) (t ti e : TypeId) (z : Value) (bytes : Nat)
  (ho : o.op = .call { callee := .builtin .append, args := #[s, x], argTypes := #[t, ti] })
  (ht : P.underlying t = some (.slice e)) {k : IntKind} (hti : P.underlying ti = some (.int k)) (hinfo : (P.info? e).map (fun i => (i.zero, i.size, i.bytes)) = some (some z, d.sz, bytes)) (hz : z.cells.size = d.sz) (hs0 : 0 < d.sz) (hb0 : 0 < bytes)
  (v : Value) (xs : List α) (z0 : α) {kx : IntKind} (n : Int) (ok : Nat → Prop) (hs : a.eval s = v) (hx : a.eval x = .int kx n) (hzero : d.M W base (fun _ => False) z0 z.cells.toList) (hfresh : ∀ k, W.heap.size ≤ k → ok k)
  (HO : d.R e W base ok v xs) (h0 : 0 ≤ n) (HB : Below base w0 W) (hbase : base ≤ W.heap.size) (hl : (xs.length + n.toNat) * bytes ≤ 140737488355328)
  (h : ∀ v1 w1, d.R e w1 base ok v1 (xs ++ List.replicate n.toNat z0) → Below base w0 w1 → W.grownBy w1 v.ownBlock → (v1.ownBlock = v.ownBlock ∨ ∃ b, v1.ownBlock = some b ∧ W.heap.size ≤ b) → wpList P ops Q rest (a.put o.dst v1) w1) :
  wpList P ops Q (o :: rest) a W := by
 obtain ⟨v1, w1, hr1, h1, hg, hat⟩ := R_zeros_run (P := P) d base t ti o.type e z bytes ht hti hinfo hz hs0 hb0 v xs z0 hzero hfresh HO kx n h0 hl hbase
 refine wpList_plain hgd fun K hK => ?_
 unfold Oper.wp execOp
 simp only [ho, resolve, invoke, builtin, Sem.run_bind, Sem.run_pure, Result.andThen_ok, List.map_toArray, List.map_cons, List.map_nil, hs, hx, hr1]
 exact hK _ _ (h v1 w1 h1 (HB.grown hg hbase (R_base HO)) hg hat)
end
def tagO {α : Type} (f : Nat → Nat) (d : Kd α) : Kd (α × Option Nat) where
 sz := d.sz
 E := d.E
 K := fun w x cs => d.K w x.1 cs
 M := fun w base ok x cs => d.M w base (fun k => ok k ∧ some (f k) = x.2) x.1 cs
 K_len := fun h => d.K_len h
 K_one := fun h => d.K_one h
 K_below := fun hb h => d.K_below hb h
 K_of_M := fun h => d.K_of_M h
 M_mono := fun hok h => d.M_mono (fun k hk => ⟨hok k hk.1, hk.2⟩) h
 M_bound := fun h => d.M_mono (fun _ hk => ⟨⟨hk.1.1, hk.2⟩, hk.1.2⟩) (d.M_bound h)
 M_move := fun hm h => d.M_move (fun k hk => hm k hk.1) h
 M_lower := fun hb h => d.M_lower hb h
section
variable {α : Type} {d : Kd α} {e : Nat} {w : World} {base : Nat} {ok : Nat → Prop} {v : Value} {xs : List α}
def zipO (xs : List α) (z : α) (m : Nat) : List (α × Option Nat) := xs.zipIdx.map (fun p => (p.1, some p.2)) ++ List.replicate m (z, none)
end
section
variable {P : Program} {ops : Array Oper} {rest : List Oper} {o : Oper} {a : Act} {Q : Exit → Act → World → Prop} {Kc : Act → World → Prop} {α : Type}
end
end Kd
end Go.Proofs.YtkkhhbegeboonaaW.PrintWords
namespace Go.Proofs.YtkkhhbegeboonaaW.PrintWords
open Go.RowKit
namespace Kd
structure Heap {α : Type} (d : Kd α) : Prop where
 K : ∀ {w w1 : World} {x : α} {cs : List Value}, (∀ k, k < w.heap.size → w1.heap[k]? = w.heap[k]?) → d.K w x cs → d.K w1 x cs
theorem cell_heap {w w1 : World} (hb : ∀ k, k < w.heap.size → w1.heap[k]? = w.heap[k]?) {a : Addr} {v : Value} (h : w.cell? a = some v) : w1.cell? a = some v := by
 have := hb a.block (World.block_lt_of_cell? w a h)
 simpa [World.cell?, this] using h
theorem Heap.C {α : Type} {d : Kd α} (hd : Heap d) {w w1 : World} {A : Option Addr} {n : Nat} {xs : List α} (hb : ∀ k, k < w.heap.size → w1.heap[k]? = w.heap[k]?) (h : d.C w A n xs) : d.C w1 A n xs :=
 ⟨h.1, h.2.1, fun hn => by
  obtain ⟨ad, e, hc⟩ := h.2.2 hn
  refine ⟨ad, e, fun j p hj => ?_⟩
  obtain ⟨c, hs, hr, hcell⟩ := hc j p hj
  exact ⟨c, hs, hd.K hb hr, fun i u hu => cell_heap hb (hcell i u hu)⟩⟩
section
variable {α : Type} {d : Kd α} {e base g n c : Nat} {ok : Nat → Prop} {w w0 W : World} {A : Option Addr} {xs : List α}
end
end Kd
end Go.Proofs.YtkkhhbegeboonaaW.PrintWords
namespace Go.Proofs.YtkkhhbegeboonaaW.PrintWords
open Go.RowKit
def Kept (w W : World) (S : Nat → Prop) : Prop := w.heap.size ≤ W.heap.size ∧ ∀ i, i < w.heap.size → ¬ S i → W.heap[i]? = w.heap[i]?
section
variable {w W W2 : World} {S S2 S' : Nat → Prop}
theorem Kept.refl (w : World) (S : Nat → Prop) : Kept w w S := ⟨Nat.le_refl _, fun _ _ _ => rfl⟩
theorem Kept.of_below (h : Below w.heap.size w W) (S : Nat → Prop) : Kept w W S := ⟨h.size, fun i hi _ => h.block i hi⟩
theorem Kept.mono (h : Kept w W S) (hs : ∀ k, S k → S' k) : Kept w W S' := ⟨h.1, fun i hi hn => h.2 i hi (fun hk => hn (hs i hk))⟩
theorem Kept.then_ (h : Kept w W S) (k : Kept W W2 S2) (hs : ∀ k, S2 k → S k ∨ w.heap.size ≤ k) : Kept w W2 S :=
 ⟨Nat.le_trans h.1 k.1, fun i hi hn => (k.2 i (Nat.lt_of_lt_of_le hi h.1) (fun h2 => (hs i h2).elim hn (fun h3 => by omega))).trans (h.2 i hi hn)⟩
theorem Kept.below (h : Kept w W S) (hb : Below W.heap.size W W2) : Kept w W2 S := h.then_ (Kept.of_below hb (fun _ => False)) (fun _ hk => hk.elim)
theorem Kept.alloc (h : Kept w W S) (o : Obj) : Kept w (W.alloc o) S := h.below (below_alloc (Below.refl _ _) o)
theorem Kept.drew (h : Kept w W S) : Kept w W.drew S := h
theorem Kept.drewN (h : Kept w W S) (m : Nat) : Kept w (W.drewN m) S := h
theorem Kept.setCell (h : Kept w W S) {p : Addr} (hp : S p.block ∨ w.heap.size ≤ p.block) (u : Value) : Kept w (W.setCell p u) S :=
 h.then_ (S2 := fun k => k = p.block) ⟨by simp [World.setCell], fun i _ hn => Below.heap_setCell W p u i hn⟩ (fun k hk => by rw [hk]; exact hp)
end
namespace Kd
section
variable {α : Type} {d : Kd α} {e base n c : Nat} {ok oki S S2 : Nat → Prop} {w w0 W W1 W2 : World} {v : Value} {A : Option Addr} {xs : List α} {i : Int} {cs : List Value}
end
end Kd
end Go.Proofs.YtkkhhbegeboonaaW.PrintWords
namespace Go.Proofs.YtkkhhbegeboonaaW.PrintWords
open Go.RowKit
def Foot (P : World → Prop) (W : World) (ok : Nat → Prop) : Prop := ∀ W' : World, (∀ k, ok k → k < W.heap.size → W'.heap[k]? = W.heap[k]?) → P W'
theorem heap_lt {W W1 : World} {k : Nat} (h : W1.heap[k]? = W.heap[k]?) (hlt : k < W.heap.size) : k < W1.heap.size := by
 rw [Array.getElem?_eq_getElem hlt] at h
 exact (Array.getElem?_eq_some_iff.1 h).1
namespace Foot
variable {P Q : World → Prop} {W W1 : World} {ok ok' : Nat → Prop}
theorem now (h : Foot P W ok) : P W := h W (fun _ _ _ => rfl)
theorem mono (h : Foot P W ok) (hok : ∀ k, ok k → ok' k) : Foot P W ok' := fun W' hW => h W' (fun k hk hlt => hW k (hok k hk) hlt)
theorem bound (h : Foot P W ok) : Foot P W (fun k => ok k ∧ k < W.heap.size) := fun W' hW => h W' (fun k hk hlt => hW k ⟨hk, hlt⟩ hlt)
theorem step (h : Foot P W ok) (hm : ∀ k, ok k → k < W.heap.size → W1.heap[k]? = W.heap[k]?) : Foot P W1 ok := fun W' hW => h W' (fun k hk hlt => (hW k hk (heap_lt (hm k hk hlt) hlt)).trans (hm k hk hlt))
theorem imp (h : Foot P W ok) (hi : ∀ W', P W' → Q W') : Foot Q W ok := fun W' hW => hi W' (h W' hW)
theorem old (h : Foot P W ok) (hb : Below W.heap.size W W1) : Foot P W1 (fun k => ok k ∧ k < W.heap.size) := (h.bound).step (fun k _ hlt => hb.block k hlt)
end Foot
namespace Kd
def F {α : Type} (d : Kd α) (W : World) (ok : Nat → Prop) (A : Option Addr) (n : Nat) (xs : List α) : Prop := Foot (fun W => d.C W A n xs) W ok
def FK {α : Type} (d : Kd α) (W : World) (ok : Nat → Prop) (x : α) (c : List Value) : Prop := Foot (fun W => d.K W x c) W ok
section
variable {α β : Type} {d : Kd α} {e base n n' cc g N : Nat} {ok ok' okp S : Nat → Prop} {w w0 w1 W W1 : World} {A A' : Option Addr} {u v v1 : Value} {xs : List α} {xs' : List β} {d' : Kd β} {x : α} {c : List Value}
theorem F_nil (d : Kd α) (W : World) (ok : Nat → Prop) : F d W ok none ([] : List α).length [] := fun W' _ => C_nil d W'
theorem FK_of_M (h : d.M W base ok x c) : FK d W ok x c := fun _ hW => d.K_of_M (M_step h hW)
end
end Kd
end Go.Proofs.YtkkhhbegeboonaaW.PrintWords
namespace Go.Proofs.YtkkhhbegeboonaaW.PrintWords
open Go.RowKit
namespace Kd
def chunks (sz : Nat) (n : Nat) (inner : List Value) : List (List Value) := (List.range n).map fun j => (inner.drop (j * sz)).take sz
theorem chunks_length (sz n : Nat) (inner : List Value) : (chunks sz n inner).length = n := by simp [chunks]
theorem chunks_at {sz n : Nat} {inner : List Value} {j : Nat} (hj : j < n) : (chunks sz n inner)[j]? = some ((inner.drop (j * sz)).take sz) := by simp [chunks, hj]
theorem chunks_get {sz n : Nat} {inner : List Value} {j : Nat} {c : List Value} (h : (chunks sz n inner)[j]? = some c) : c = (inner.drop (j * sz)).take sz := by
 have hj : j < n := by have := (List.getElem?_eq_some_iff.1 h).1; rwa [chunks_length] at this
 rw [chunks_at hj] at h
 injection h with h
 exact h.symm
theorem reps_raw {α : Type} {Rr : α → List Value → Prop} {sz : Nat} {xs : List α} {inner : List Value} (h : Reps Rr sz xs inner) (hR : ∀ x c, Rr x c → c.length = sz ∧ ∀ u ∈ c, u.oneCell' = true) : Reps (fun x cs => cs = x ∧ cs.length = sz ∧ ∀ u ∈ cs, u.oneCell' = true) sz (chunks sz xs.length inner) inner := by
 refine ⟨by rw [chunks_length]; exact h.1, fun j p hj => ?_⟩
 have hjl : j < xs.length := by have := (List.getElem?_eq_some_iff.1 hj).1; rwa [chunks_length] at this
 have hp := chunks_get hj
 exact ⟨hp.symm, hR _ _ (h.2 j _ (List.getElem?_eq_getElem hjl))⟩
section
variable {α : Type} {d : Kd α} {e base n cc g : Nat} {ok ok' okp S : Nat → Prop} {w w1 W W1 : World} {A : Option Addr} {u v v1 : Value} {xs : List α} {x : α} {c : List Value}
def N {α : Type} (d : Kd α) (e : Nat) (w : World) (base : Nat) (ok : Nat → Prop) (v : Value) (xs : List α) : Prop :=
 (∀ k, v.ownBlock = some k → ok k) ∧ ∃ rows : List (List Value), rows.length = xs.length ∧ (raw d.sz).R e w base (fun k => some k = v.ownBlock) v rows ∧ ∀ (j : Nat) (x : α) (c : List Value), xs[j]? = some x → rows[j]? = some c → FK d w (fun k => ok k ∧ some k ≠ v.ownBlock) x c
theorem R_N (h : d.R e w base ok v xs) : N d e w base ok v xs := by
 obtain ⟨h0, inner, ho, hr⟩ := h
 refine ⟨h0, chunks d.sz xs.length inner, chunks_length _ _ _, ⟨fun k hk => hk.symm, inner, by rw [chunks_length]; exact ho, reps_raw hr (fun x c hp => ⟨d.K_len (d.K_of_M hp), d.K_one (d.K_of_M hp)⟩)⟩, fun j x c hx hc => ?_⟩
 rw [chunks_get hc]
 exact FK_of_M (hr.2 j x hx)
theorem N_nil (d : Kd α) (e : Nat) (w : World) (base : Nat) (ok : Nat → Prop) : N d e w base ok (.slice none 0 0) [] := R_N (R_nil _ _ _ _ _)
end
end Kd
end Go.Proofs.YtkkhhbegeboonaaW.PrintWords
namespace Go.Proofs.YtkkhhbegeboonaaW.PrintWords
open Go.RowKit
namespace Kd
section
variable {α : Type} {d : Kd α} {W : World} {g n : Nat} {S ok : Nat → Prop} {A : Option Addr} {ad : Addr} {xs : List α}
end
end Kd
end Go.Proofs.YtkkhhbegeboonaaW.PrintWords
namespace Go.Proofs.YtkkhhbegeboonaaW.PrintWords
open Go.RowKit
section
variable {w w' u : World} {m B g : Nat} {o : Obj} {row : Option Nat} {S : Nat → Prop} {a : Addr} {v : Value}
end
namespace Kd
section
variable {α : Type} {d : Kd α} {e base n m : Nat} {ok : Nat → Prop} {w w' : World} {v : Value} {A : Option Addr} {xs : List α}
end
end Kd
end Go.Proofs.YtkkhhbegeboonaaW.PrintWords
namespace Go.Proofs.YtkkhhbegeboonaaW.PrintWords
open Go.RowKit
section
variable {P : Program} {d : Nat} {xs ys : Array Value} {f : Field} {fs : List Field} {a b : Value} {r s : Bool} {w : World}
end
end Go.Proofs.YtkkhhbegeboonaaW.PrintWords
namespace Go.Proofs.YtkkhhbegeboonaaW.PrintWords
theorem Reps.one {α : Type} {R : α → List Value → Prop} {ps : List α} {cs : List Value} {p : α} {v : Value} (hp : R p [v]) (h : Reps R 1 ps cs) : Reps R 1 (p :: ps) (v :: cs) := by
 refine ⟨by simp [h.1], fun j q hq => ?_⟩
 cases j with
 | zero =>
  simp only [List.getElem?_cons_zero, Option.some.injEq] at hq
  subst hq
  simpa using hp
 | succ j =>
  simp only [List.getElem?_cons_succ] at hq
  have h1 := h.2 j q hq
  simpa [Nat.mul_one] using h1
theorem Reps.front {α : Type} {R : α → List Value → Prop} {size : Nat} {ps : List α} {cs c all : List Value} {p : α} (hp : R p c) (hc : c.length = size) (h : Reps R size ps cs) (ha : c ++ cs = all) : Reps R size (p :: ps) all := by
 subst ha
 refine ⟨by rw [List.length_append, hc, h.1, List.length_cons, Nat.succ_mul, Nat.add_comm], fun j q hq => ?_⟩
 cases j with
 | zero =>
  simp only [List.getElem?_cons_zero, Option.some.injEq] at hq
  subst hq
  rw [Nat.zero_mul, List.drop_zero, List.take_append_of_le_length (by omega), List.take_of_length_le (by omega)]
  exact hp
 | succ j =>
  simp only [List.getElem?_cons_succ] at hq
  have h1 := h.2 j q hq
  rw [Nat.succ_mul, List.drop_append, List.drop_of_length_le (by rw [hc]; exact Nat.le_add_left _ _), List.nil_append, hc, Nat.add_sub_cancel]
  exact h1
theorem Reps.c2 {α : Type} {R : α → List Value → Prop} {ps : List α} {cs : List Value} {p : α} {va vb : Value} (hp : R p [va, vb]) (h : Reps R 2 ps cs) : Reps R 2 (p :: ps) (va :: vb :: cs) := Reps.front hp rfl h rfl
theorem Reps.c3 {α : Type} {R : α → List Value → Prop} {ps : List α} {cs : List Value} {p : α} {va vb vc : Value} (hp : R p [va, vb, vc]) (h : Reps R 3 ps cs) : Reps R 3 (p :: ps) (va :: vb :: vc :: cs) := Reps.front hp rfl h rfl
theorem Reps.c4 {α : Type} {R : α → List Value → Prop} {ps : List α} {cs : List Value} {p : α} {va vb vc vd : Value} (hp : R p [va, vb, vc, vd]) (h : Reps R 4 ps cs) : Reps R 4 (p :: ps) (va :: vb :: vc :: vd :: cs) := Reps.front hp rfl h rfl
theorem Reps.c5 {α : Type} {R : α → List Value → Prop} {ps : List α} {cs : List Value} {p : α} {va vb vc vd ve : Value} (hp : R p [va, vb, vc, vd, ve]) (h : Reps R 5 ps cs) : Reps R 5 (p :: ps) (va :: vb :: vc :: vd :: ve :: cs) := Reps.front hp rfl h rfl
theorem Reps.c6 {α : Type} {R : α → List Value → Prop} {ps : List α} {cs : List Value} {p : α} {va vb vc vd ve vf : Value} (hp : R p [va, vb, vc, vd, ve, vf]) (h : Reps R 6 ps cs) : Reps R 6 (p :: ps) (va :: vb :: vc :: vd :: ve :: vf :: cs) := Reps.front hp rfl h rfl
theorem Reps.c7 {α : Type} {R : α → List Value → Prop} {ps : List α} {cs : List Value} {p : α} {va vb vc vd ve vf vg : Value} (hp : R p [va, vb, vc, vd, ve, vf, vg]) (h : Reps R 7 ps cs) : Reps R 7 (p :: ps) (va :: vb :: vc :: vd :: ve :: vf :: vg :: cs) := Reps.front hp rfl h rfl
theorem Reps.c8 {α : Type} {R : α → List Value → Prop} {ps : List α} {cs : List Value} {p : α} {va vb vc vd ve vf vg vh : Value} (hp : R p [va, vb, vc, vd, ve, vf, vg, vh]) (h : Reps R 8 ps cs) : Reps R 8 (p :: ps) (va :: vb :: vc :: vd :: ve :: vf :: vg :: vh :: cs) := Reps.front hp rfl h rfl
theorem Reps.c9 {α : Type} {R : α → List Value → Prop} {ps : List α} {cs : List Value} {p : α} {va vb vc vd ve vf vg vh vi : Value} (hp : R p [va, vb, vc, vd, ve, vf, vg, vh, vi]) (h : Reps R 9 ps cs) : Reps R 9 (p :: ps) (va :: vb :: vc :: vd :: ve :: vf :: vg :: vh :: vi :: cs) := Reps.front hp rfl h rfl
theorem Reps.c10 {α : Type} {R : α → List Value → Prop} {ps : List α} {cs : List Value} {p : α} {va vb vc vd ve vf vg vh vi vj : Value} (hp : R p [va, vb, vc, vd, ve, vf, vg, vh, vi, vj]) (h : Reps R 10 ps cs) : Reps R 10 (p :: ps) (va :: vb :: vc :: vd :: ve :: vf :: vg :: vh :: vi :: vj :: cs) := Reps.front hp rfl h rfl
end Go.Proofs.YtkkhhbegeboonaaW.PrintWords
namespace Go.Proofs.YtkkhhbegeboonaaW.PrintLast
def up (b : Nat → Bool) (i : Nat) : Nat → Bool := fun j => if j = i then true else b j
def lof (n : Nat) (O : List Nat) (b : Nat → Bool) : List Bool := (List.range n).map fun j => if O.contains j then b j else true
def putSel (a : Act) (b : Nat → Bool) : List (Nat × Tmp × Value) → Act
 | [] => a
 | e :: r => putSel (if b e.1 = true then a.put (some e.2.1) e.2.2 else a) b r
section
variable {P : Program} {ops : Array Oper} {Q : Exit → Act → World → Prop} {md : Region.Mode} {T : Bool × List (List Nat × List Nat)} {B : List Nat} {O : List Nat} {b : Nat → Bool} {i j n : Nat}
def StepAt (P : Program) (ops : Array Oper) (Q : Exit → Act → World → Prop) (B : List Nat) (O : List Nat) (I : (Nat → Bool) → Act → World → Prop) (i : Nat) : Prop :=
 ∀ b a w, I b a w → b i = false → (∀ j, (O.contains j && (B.getD i 0).testBit j) = true → b j = true) → (∀ d, (O.contains d && (B.getD d 0).testBit i) = true → b d = false) →
  ∃ oi, ops[i]? = some oi ∧ ∀ K : Act → World → Prop, Shut (∀ a' w', I (up b i) a' w' → K a' w') → if Region.wanted oi (yielded ops a.tmps) = true then Oper.wp P oi a w K Q else K (a.put oi.dst undef) w
def baseOk (T : List (List Nat × List Nat)) (O : List Nat) : Bool :=
 (List.range T.length).all (fun d => match T[d]? with
  | some r => (O.contains d || r.1.all fun n => !O.contains n) && r.1.all fun n => decide (n < d)
  | none => false) && O.all (fun i => decide (i < T.length)) && decide O.Nodup
def Closed (T : List (List Nat × List Nat)) (O : List Nat) (b : Nat → Bool) : Prop := ∀ d r, T[d]? = some r → O.contains d = true → b d = true → ∀ n ∈ r.1, O.contains n = true → b n = true
end
end Go.Proofs.YtkkhhbegeboonaaW.PrintLast
namespace Go.Proofs.YtkkhhbegeboonaaW.PrintWords
open Go.RowKit
end Go.Proofs.YtkkhhbegeboonaaW.PrintWords
namespace Go.Proofs.YtkkhhbegeboonaaW.PrintLast
section
variable {ops : Array Oper} {a : Act} {o og : Oper} {g : Nat} {t : Tmp} {u : Bool}
end
end Go.Proofs.YtkkhhbegeboonaaW.PrintLast
namespace Go.Proofs.YtkkhhbegeboonaaW.PrintWords
open Go.RowKit
section
variable {P : Program} {ops : Array Oper} {rest : List Oper} {o : Oper} {a : Act} {Q : Exit → Act → World → Prop} {W : World}
theorem gate_guard (hw : Region.wanted o (yielded ops a.tmps) = true) (h : wpList P ops Q ({ o with guard := none } :: rest) a W) : wpList P ops Q (o :: rest) a W := by
 have h1 : Region.wanted { o with guard := none } (yielded ops a.tmps) = true := rfl
 unfold wpList at h ⊢
 rw [if_pos h1] at h
 rw [if_pos hw]
 exact h
end
end Go.Proofs.YtkkhhbegeboonaaW.PrintWords
namespace Go.Proofs.YtkkhhbegeboonaaW.PrintWords
open Go.RowKit
namespace Kd
section
variable {α : Type} {d : Kd α} {e base n cap g : Nat} {ok ok' okp : Nat → Prop} {w w1 W : World} {v v1 : Value} {xs ys : List α}
end
section
variable {P : Program} {ops : Array Oper} {rest : List Oper} {o : Oper} {a : Act} {Q : Exit → Act → World → Prop} {Kc : Act → World → Prop} {α : Type}
end
end Kd
end Go.Proofs.YtkkhhbegeboonaaW.PrintWords
namespace Go.Proofs.YtkkhhbegeboonaaW.PrintMore
open Go.RowKit Go.Proofs.YtkkhhbegeboonaaW.PrintWords
namespace Kd
open Go.Proofs.YtkkhhbegeboonaaW.PrintWords.Kd
end Kd
namespace Kd
open Go.Proofs.YtkkhhbegeboonaaW.PrintWords.Kd
section
variable {α : Type} {d : Kd α} {e base g N : Nat} {ok : Nat → Prop} {W w1 : World} {u v : Value} {xs : List α}
end
end Kd
theorem max2_int (k k' : IntKind) (x y : Int) : Builtin.max2 (.int k x) (.int k' y) = pure (.int k (if x < y then y else x)) := by simp only [Builtin.max2, gt_iff_lt]
theorem min2_int (k k' : IntKind) (x y : Int) : Builtin.min2 (.int k x) (.int k' y) = pure (.int k (if y < x then y else x)) := by simp only [Builtin.min2]
theorem max_two (ats : Array TypeId) (ty : TypeId) (a b : Value) : Builtin.max_ ats ty #[a, b] = (Builtin.max2 a b >>= fun s => pure s) := by simp only [Builtin.max_, List.foldlM_cons, List.foldlM_nil]
theorem min_two (ats : Array TypeId) (ty : TypeId) (a b : Value) : Builtin.min_ ats ty #[a, b] = (Builtin.min2 a b >>= fun s => pure s) := by simp only [Builtin.min_, List.foldlM_cons, List.foldlM_nil]
theorem max_three (ats : Array TypeId) (ty : TypeId) (a b c : Value) : Builtin.max_ ats ty #[a, b, c] = (Builtin.max2 a b >>= fun s => Builtin.max2 s c >>= fun s => pure s) := by simp only [Builtin.max_, List.foldlM_cons, List.foldlM_nil]
theorem min_three (ats : Array TypeId) (ty : TypeId) (a b c : Value) : Builtin.min_ ats ty #[a, b, c] = (Builtin.min2 a b >>= fun s => Builtin.min2 s c >>= fun s => pure s) := by simp only [Builtin.min_, List.foldlM_cons, List.foldlM_nil]
theorem max_four (ats : Array TypeId) (ty : TypeId) (a b c d : Value) : Builtin.max_ ats ty #[a, b, c, d] = (Builtin.max2 a b >>= fun s => Builtin.max2 s c >>= fun s => Builtin.max2 s d >>= fun s => pure s) := by simp only [Builtin.max_, List.foldlM_cons, List.foldlM_nil]
theorem min_four (ats : Array TypeId) (ty : TypeId) (a b c d : Value) : Builtin.min_ ats ty #[a, b, c, d] = (Builtin.min2 a b >>= fun s => Builtin.min2 s c >>= fun s => Builtin.min2 s d >>= fun s => pure s) := by simp only [Builtin.min_, List.foldlM_cons, List.foldlM_nil]
end Go.Proofs.YtkkhhbegeboonaaW.PrintMore
namespace Go.Proofs.YtkkhhbegeboonaaW.PrintWords
open Go.RowKit
section
variable {P : Program} {ops : Array Oper} {rest : List Oper} {o : Oper} {a : Act} {Q : Exit → Act → World → Prop} {W : World}
theorem gate_callee {f : FuncId} {as9 : Array Operand} {ts : Array TypeId} (_ho : o.op = .call { callee := .value (.func f), args := as9, argTypes := ts }) (h : wpList P ops Q (o :: rest) a W) : wpList P ops Q (o :: rest) a W := h
theorem gate_builtin {b : Builtin} {xs : Array Operand} {ts : Array TypeId} (_ho : o.op = .call { callee := .builtin b, args := xs, argTypes := ts }) (h : wpList P ops Q (o :: rest) a W) : wpList P ops Q (o :: rest) a W := h
end
def mx (a b : Int) : Int := if a < b then b else a
def mn (a b : Int) : Int := if b < a then b else a
def shl (k : IntKind) (x y : Int) : Int := k.wrap (x * 2 ^ min y.toNat k.bits)
def shr (k : IntKind) (x y : Int) : Int := x / 2 ^ min y.toNat k.bits
namespace Kd
section
variable {α : Type} {d : Kd α} {e base : Nat} {ok : Nat → Prop} {W w1 : World} {v : Value} {xs : List α}
end
section
variable {α : Type} {d : Kd α} {e base g n cap : Nat} {ok oki okp : Nat → Prop} {W : World} {xs : List α} {i : Int} {c : List Value}
end
section
variable {α : Type} {d : Kd α} {e base b b' g N : Nat} {ok ok1 : Nat → Prop} {W W2 w1 : World} {u v : Value} {xs ys : List α} {S : Nat → Prop}
end
end Kd
end Go.Proofs.YtkkhhbegeboonaaW.PrintWords
namespace Go.Proofs.YtkkhhbegeboonaaW.PrintWords
open Go.RowKit
namespace Kd
def V {α : Type} (d : Kd α) (_e : Nat) (W : World) (_base : Nat) (ok : Nat → Prop) (v : Value) (xs : List α) : Prop := ∃ A c, v = .slice A xs.length c ∧ xs.length ≤ c ∧ F d W ok A xs.length xs
section
variable {α β : Type} {d : Kd α} {e base base' n m c g N' lo hi : Nat} {ok ok' S : Nat → Prop} {w W w1 : World} {A : Option Addr} {ad : Addr} {u v v1 : Value} {xs : List α}
theorem V_nil (d : Kd α) (e : Nat) (W : World) (base : Nat) (ok : Nat → Prop) : V d e W base ok (.slice none 0 0) [] := ⟨none, 0, rfl, Nat.le_refl _, F_nil d W ok⟩
end
end Kd
end Go.Proofs.YtkkhhbegeboonaaW.PrintWords

namespace Go.Proofs.Ytkkhhbegeboonaa.Mem
open Go.RowKit Go.Proofs.YtkkhhbegeboonaaW.PrintWords Go.Proofs.YtkkhhbegeboonaaW.PrintLast Go.Proofs.YtkkhhbegeboonaaW.PrintMore
set_option linter.unusedVariables false
set_option linter.unusedSimpArgs false
structure Frame (S : Nat → Prop) (w w' : World) : Prop where
 os : w'.os = w.os
 tape : w'.tape = w.tape
 output : w'.output = w.output
 size : w.heap.size ≤ w'.heap.size
 block : ∀ k, k < w.heap.size → ¬ S k → w'.heap[k]? = w.heap[k]?
theorem Frame.refl (S : Nat → Prop) (w : World) : Frame S w w := ⟨rfl, rfl, rfl, Nat.le_refl _, fun _ _ _ => rfl⟩
theorem Frame.trans {S : Nat → Prop} {a b c : World} (h : Frame S a b) (k : Frame S b c) : Frame S a c :=
 ⟨k.os.trans h.os, k.tape.trans h.tape, k.output.trans h.output, Nat.le_trans h.size k.size, fun i hi hs => (k.block i (Nat.lt_of_lt_of_le hi h.size) hs).trans (h.block i hi hs)⟩
theorem Frame.mono {S T : Nat → Prop} {a b : World} (h : Frame S a b) (hst : ∀ k, k < a.heap.size → S k → T k) : Frame T a b := ⟨h.os, h.tape, h.output, h.size, fun i hi hs => h.block i hi (fun e => hs (hst i hi e))⟩
theorem Frame.drew {S : Nat → Prop} {a b : World} (h : Frame S a b) : Frame S a b.drew := ⟨h.os, h.tape, h.output, h.size, h.block⟩
theorem Frame.drewN {S : Nat → Prop} {a b : World} (h : Frame S a b) (n : Nat) : Frame S a (b.drewN n) := ⟨h.os, h.tape, h.output, h.size, h.block⟩
theorem Frame.setCell {S : Nat → Prop} {a b : World} (h : Frame S a b) {p : Addr} (hp : S p.block) (u : Value) : Frame S a (b.setCell p u) :=
 h.trans ⟨rfl, rfl, rfl, by simp [World.setCell], fun k _ hs => Below.heap_setCell _ _ _ _ (fun e => hs (e ▸ hp))⟩
theorem Frame.alloc {S : Nat → Prop} {a b : World} (h : Frame S a b) (o : Obj) : Frame S a (b.alloc o) :=
 h.trans ⟨rfl, rfl, rfl, by simp, fun k hk _ => Below.heap_alloc _ _ _ hk⟩
theorem Frame.below {S : Nat → Prop} {a b : World} (h : Frame S a b) {B : Nat} (hB : B ≤ a.heap.size) (hS : ∀ k, S k → B ≤ k) : Below B a b :=
 ⟨h.os, h.tape, h.output, h.size, fun k hk => h.block k (by omega) (fun e => by have := hS k e; omega)⟩
theorem Frame.of_below {S : Nat → Prop} {a b : World} (h : Below a.heap.size a b) : Frame S a b := ⟨h.os, h.tape, h.output, h.size, fun k hk _ => h.block k hk⟩
theorem Frame.blk {S : Nat → Prop} {a b : World} (h : Frame S a b) {k : Nat} {o : Obj} (hk : a.heap[k]? = some o) (hs : ¬ S k) : b.heap[k]? = some o := by
 rw [h.block k (by rw [Array.getElem?_eq_some_iff] at hk; exact hk.1) hs]; exact hk
theorem Frame.grown {S : Nat → Prop} {a b c : World} (h : Frame S a b) {row : Option Nat} (hg : b.grownBy c row) (hr : ∀ k, row = some k → S k) : Frame S a c :=
 h.trans ⟨hg.os, hg.tape, hg.output, hg.size, fun k hk hs => hg.block k hk (fun e => hs (hr k e.symm))⟩
theorem lt_of {w : World} {k : Nat} {o : Obj} (hk : w.heap[k]? = some o) : k < w.heap.size := by
 rw [Array.getElem?_eq_some_iff] at hk; exact hk.1
theorem heap_last (w : World) (o : Obj) : (w.alloc o).heap[w.heap.size]? = some o := by
 show (w.heap.push o)[w.heap.size]? = _
 simp
theorem heap_old {w : World} {k : Nat} {o : Obj} (h : w.heap[k]? = some o) (o' : Obj) : (w.alloc o').heap[k]? = some o := by
 rw [Below.heap_alloc _ _ _ (lt_of h)]; exact h
theorem heap_ne {w : World} {b i k : Nat} {v : Value} {o : Obj} (h : w.heap[k]? = some o) (hk : k ≠ b) : (w.setCell ⟨b, i, none⟩ v).heap[k]? = some o := by
 rw [Below.heap_setCell _ _ _ _ hk]; exact h
theorem heap_set {w : World} {b i : Nat} {c : Array Value} {T : TypeId} {f : Nat × Nat} (h : w.heap[b]? = some (.cells c T f)) (v : Value) : (w.setCell ⟨b, i, none⟩ v).heap[b]? = some (.cells (c.setIfInBounds i v) T f) := by
 simp [World.setCell, Array.getElem?_modify, h]
theorem heap_cell {w : World} {b i : Nat} {c : Array Value} {T : TypeId} {f : Nat × Nat} (h : w.heap[b]? = some (.cells c T f)) {v : Value} (hv : c[i]? = some v) : w.cell? ⟨b, i, none⟩ = some v := by
 simp [World.cell?, h, hv]
theorem heap_free {w : World} {b : Nat} {c : Array Value} {T : TypeId} (h : w.heap[b]? = some (.cells c T (0, 0))) (i : Nat) : w.frozen? ⟨b, i, none⟩ = false := by
 simp [World.frozen?, h]
theorem cell_lt {w : World} {a : Addr} {v : Value} (h : w.cell? a = some v) : a.block < w.heap.size := World.block_lt_of_cell? w a h
theorem cell_ne {w : World} {a : Addr} {v : Value} (h : w.cell? a = some v) {b i : Nat} (u : Value) (hb : a.block ≠ b) : (w.setCell ⟨b, i, none⟩ u).cell? a = some v := by
 unfold World.cell? at h ⊢
 rw [Below.heap_setCell _ _ _ _ hb]
 exact h
def gi (l : List Int) (i : Nat) : Int := l.getD i 0
theorem gi_rd (l : List Int) (i : Nat) : rd l (i : Int) = gi l i := by unfold rd gi; rw [Int.toNat_natCast]
theorem gi_set (l : List Int) (i j : Nat) (x : Int) : gi (l.set i x) j = if i = j ∧ j < l.length then x else gi l j := by
 unfold gi
 simp only [List.getD_eq_getElem?_getD, List.getElem?_set]
 by_cases h : i = j
 ·subst h
  by_cases h2 : i < l.length <;> simp [h2]
 ·simp [h]
theorem gi_of {l : List Int} {i : Nat} (h : i < l.length) : l[i]? = some (gi l i) := by
 unfold gi
 simp [List.getD_eq_getElem?_getD, h]
def IRow (w : World) (b : Nat) (l : List Int) : Prop := w.heap[b]? = some (.cells (l.map (Value.int .i64)).toArray 3 (0, 0))
theorem IRow.cell {w : World} {b : Nat} {l : List Int} (h : IRow w b l) {i : Nat} (hi : i < l.length) : w.cell? ⟨b, i, none⟩ = some (.int .i64 (gi l i)) :=
 heap_cell h (by simp [gi_of hi])
theorem IRow.free {w : World} {b : Nat} {l : List Int} (h : IRow w b l) (i : Nat) : w.frozen? ⟨b, i, none⟩ = false := heap_free h i
theorem IRow.put {w : World} {b : Nat} {l : List Int} (h : IRow w b l) (i : Nat) (x : Int) : IRow (w.setCell ⟨b, i, none⟩ (.int .i64 x)) b (l.set i x) := by
 unfold IRow
 rw [heap_set h]
 simp [List.map_set]
theorem IRow.frame {S : Nat → Prop} {w w' : World} {b : Nat} {l : List Int} (h : IRow w b l) (f : Frame S w w') (hs : ¬ S b) : IRow w' b l := f.blk h hs
theorem info_int : (Try.prog.info? 3).map (fun i => (i.zero, i.size, i.bytes)) = some (some (.int .i64 0), 1, 8) := by kernel_rfl
theorem IRow.start (w : World) (n : Nat) : IRow (w.alloc (.cells (Array.replicate n (Value.int .i64 0)) 3 (0, 0))) w.heap.size (List.replicate n 0) := by
 have h := heap_last w (.cells (Array.replicate n (Value.int .i64 0)) 3 (0, 0))
 unfold IRow
 rw [h]
 simp
theorem IRow.own {w : World} {b base : Nat} {l : List Int} {ok : Nat → Prop} (h : IRow w b l) (hb : base ≤ b) (hl : l.length ≤ 9223372036854775807) (hok : ok b) : Kd.R (Kd.int .i64) 3 w base ok (.slice (some ⟨b, 0, none⟩) l.length l.length) l := by
 refine Kd.R_of_own ⟨by simp [encs], .inr ⟨b, l.length, _, rfl, hb, h, Nat.le_refl _, by unfold maxLen; simpa using hl, by simp, ?_⟩⟩ (fun k hk => ?_)
 ·simp [encs, List.take_of_length_le]
 ·obtain rfl : b = k := by simpa [Value.ownBlock] using hk
  exact hok
def gb (l : List Bool) (i : Nat) : Bool := l.getD i false
theorem gb_set (l : List Bool) (i j : Nat) (x : Bool) : gb (l.set i x) j = if i = j ∧ j < l.length then x else gb l j := by
 unfold gb
 simp only [List.getD_eq_getElem?_getD, List.getElem?_set]
 by_cases h : i = j
 ·subst h
  by_cases h2 : i < l.length <;> simp [h2]
 ·simp [h]
theorem gb_of {l : List Bool} {i : Nat} (h : i < l.length) : l[i]? = some (gb l i) := by
 unfold gb
 simp [List.getD_eq_getElem?_getD, h]
def BRow (w : World) (b : Nat) (l : List Bool) : Prop := w.heap[b]? = some (.cells (l.map Value.bool).toArray 4 (0, 0))
theorem BRow.cell {w : World} {b : Nat} {l : List Bool} (h : BRow w b l) {i : Nat} (hi : i < l.length) : w.cell? ⟨b, i, none⟩ = some (.bool (gb l i)) :=
 heap_cell h (by simp [gb_of hi])
theorem BRow.free {w : World} {b : Nat} {l : List Bool} (h : BRow w b l) (i : Nat) : w.frozen? ⟨b, i, none⟩ = false := heap_free h i
theorem BRow.put {w : World} {b : Nat} {l : List Bool} (h : BRow w b l) (i : Nat) (x : Bool) : BRow (w.setCell ⟨b, i, none⟩ (.bool x)) b (l.set i x) := by
 unfold BRow
 rw [heap_set h]
 simp [List.map_set]
theorem BRow.frame {S : Nat → Prop} {w w' : World} {b : Nat} {l : List Bool} (h : BRow w b l) (f : Frame S w w') (hs : ¬ S b) : BRow w' b l := f.blk h hs
theorem info_bool : (Try.prog.info? 4).map (fun i => (i.zero, i.size, i.bytes)) = some (some (.bool false), 1, 1) := by kernel_rfl
theorem made_bool (n : Nat) : madeCells #[.bool false] n = Array.replicate n (Value.bool false) := by
 apply Array.ext
 ·simp [madeCells]
 ·intro i h1 h2
  simp [madeCells, Nat.mod_one]
theorem BRow.start (w : World) (n : Nat) : BRow (w.alloc (.cells (Array.replicate n (Value.bool false)) 4 (0, 0))) w.heap.size (List.replicate n false) := by
 have h := heap_last w (.cells (Array.replicate n (Value.bool false)) 4 (0, 0))
 unfold BRow
 rw [h]
 simp
def gl (r : List (List Int)) (j : Nat) : List Int := r.getD j []
theorem gl_of {r : List (List Int)} {i : Nat} (h : i < r.length) : r[i]? = some (gl r i) := by
 unfold gl
 simp [List.getD_eq_getElem?_getD, h]
theorem gl_set (r : List (List Int)) (i j : Nat) (x : List Int) : gl (r.set i x) j = if i = j ∧ j < r.length then x else gl r j := by
 unfold gl
 simp only [List.getD_eq_getElem?_getD, List.getElem?_set]
 by_cases h : i = j
 ·subst h
  by_cases h2 : i < r.length <;> simp [h2]
 ·simp [h]
abbrev KR : Kd (List Int) := Kd.slice 3 (Kd.int .i64)
theorem row_at {w : World} {A : Option Addr} {r : List (List Int)} (h : Kd.C KR w A r.length r) {i : Nat} (hi : i < r.length) :
  ∃ ad B c, A = some ad ∧ w.cell? (ad.add i) = some (.slice B (gl r i).length c) ∧ (gl r i).length ≤ c ∧ Kd.C (Kd.int .i64) w B (gl r i).length (gl r i) := by
 obtain ⟨ad, cs, e, hl, ⟨B, c, hcs, hc, hr⟩, hcell⟩ := Kd.C_get h [] (i : Int) (by omega) (by omega)
 rw [Int.toNat_natCast] at hcs hcell hc hr
 refine ⟨ad, B, c, e, ?_, hc, hr⟩
 have := hcell 0 _ (by rw [hcs]; rfl)
 rw [show KR.sz = 1 from rfl, Nat.mul_one, Nat.add_zero] at this
 exact this
theorem C_le {α : Type} {d : Kd α} {w : World} {A : Option Addr} {n : Nat} {xs : List α} (h : d.C w A n xs) : n ≤ 9223372036854775807 := h.2.1
def pe (es : List (Int × Int)) (i : Nat) : Int × Int := es.getD i (0, 0)
def Pairs (w : World) (A : Option Addr) (es : List (Int × Int)) : Prop := ∀ i : Nat, i < es.length → ∃ ad, A = some ad ∧ w.cell? (ad.add (i * 2)) = some (.int .i64 (pe es i).1) ∧ w.cell? ⟨(ad.add (i * 2)).block, (ad.add (i * 2)).off + 1, none⟩ = some (.int .i64 (pe es i).2)
theorem Pairs.below {w w' : World} {A : Option Addr} {es : List (Int × Int)} (h : Pairs w A es) (hb : Below w.heap.size w w') : Pairs w' A es := by
 intro i hi
 obtain ⟨ad, e, h1, h2⟩ := h i hi
 exact ⟨ad, e, by rw [hb.cell (cell_lt h1)]; exact h1, by rw [hb.cell (cell_lt h2)]; exact h2⟩
theorem own_low {w : World} {B B' : Nat} {e : TypeId} {s n : Nat} {v : Value} {xs : List Value} (h : w.ownsRow B e s v n xs) (hb : B' ≤ B) : w.ownsRow B' e s v n xs := by
 refine ⟨h.1, ?_⟩
 rcases h.2 with h1 | ⟨g, cap, cur, h1, h2, h3⟩
 ·exact .inl h1
 ·exact .inr ⟨g, cap, cur, h1, by omega, h3⟩
theorem C_drop {α : Type} {d : Kd α} {w : World} {A : Option Addr} {c a : Nat} {xs : List α} (h : d.C w A xs.length xs) (hc : xs.length ≤ c) (ha : a ≤ xs.length) : d.C w (if c = a then A else A.map (·.add (a * d.sz))) (xs.length - a) (xs.drop a) := by
 refine ⟨by simp, by have := h.2.1; omega, fun hp => ?_⟩
 obtain ⟨ad, e, hcell⟩ := h.2.2 (by omega)
 refine ⟨ad.add (a * d.sz), by rw [if_neg (by omega), e]; rfl, fun j p hj => ?_⟩
 rw [List.getElem?_drop] at hj
 obtain ⟨cs, h1, h2, h3⟩ := hcell (a + j) p hj
 refine ⟨cs, h1, h2, fun i u hu => ?_⟩
 rw [Go.Deep.add_add]
 have := h3 i u hu
 rw [Nat.add_mul] at this
 rw [show a * d.sz + (j * d.sz + i) = a * d.sz + j * d.sz + i by omega]
 exact this
theorem C_take {α : Type} {d : Kd α} {w : World} {A : Option Addr} {c a : Nat} {xs : List α} (h : d.C w A xs.length xs) (hc : xs.length ≤ c) (ha : a ≤ xs.length) : d.C w (if c = 0 then A else A.map (·.add (0 * d.sz))) a (xs.take a) := by
 refine ⟨by simp; omega, by have := h.2.1; omega, fun hp => ?_⟩
 obtain ⟨ad, e, hcell⟩ := h.2.2 (by omega)
 refine ⟨ad.add (0 * d.sz), by rw [if_neg (by omega), e]; rfl, fun j p hj => ?_⟩
 have hja : j < a := by
  have := (List.getElem?_eq_some_iff.1 hj).1
  simp at this; omega
 rw [List.getElem?_take, if_pos hja] at hj
 obtain ⟨cs, h1, h2, h3⟩ := hcell j p hj
 refine ⟨cs, h1, h2, fun i u hu => ?_⟩
 rw [Go.Deep.add_add]
 have := h3 i u hu
 rw [show 0 * d.sz + (j * d.sz + i) = j * d.sz + i by omega]
 exact this
set_option maxRecDepth 100000 in
theorem slice_from (A : Option Addr) (n c a : Nat) (ha : a ≤ n) (W : World) : (Instr.slice 28 (.slice A n c) (some (.int .i64 (a : Int))) none none).run Try.prog W = .ok (.slice (if c = a then A else A.map (·.add (a * 1))) (n - a) (c - a)) W := by
 rw [run_slice_l W 28 A n c Try.underlying28 .i64 (a : Int) (by omega) (by omega), Int.toNat_natCast]
 have hs : ∀ W : World, (sizeOf (Try.prog.elem 28)).run Try.prog W = .ok 1 W := fun W => by kernel_rfl
 rw [hs]
 rfl
set_option maxRecDepth 100000 in
theorem slice_to (A : Option Addr) (n c a : Nat) (ha : a ≤ c) (W : World) : (Instr.slice 28 (.slice A n c) none (some (.int .i64 (a : Int))) none).run Try.prog W = .ok (.slice (if c = 0 then A else A.map (·.add (0 * 1))) a c) W := by
 rw [run_slice_h W 28 A n c Try.underlying28 .i64 (a : Int) (by omega) (by omega), Int.toNat_natCast]
 have hs : ∀ W : World, (sizeOf (Try.prog.elem 28)).run Try.prog W = .ok 1 W := fun W => by kernel_rfl
 rw [hs]
 rfl
theorem from_reads {A : Option Addr} {c a : Nat} {l : List Int} {w : World} (h : Kd.C (Kd.int .i64) w A l.length l) (hc : l.length ≤ c) (ha : a ≤ l.length) : ∃ X, (∀ W : World, (Instr.slice 28 (.slice A l.length c) (some (.int .i64 (a : Int))) none none).run Try.prog W = .ok (.slice X (l.length - a) (c - a)) W) ∧ Kd.C (Kd.int .i64) w X (l.length - a) (l.drop a) := ⟨_, slice_from A l.length c a ha, C_drop h hc ha⟩
theorem to_reads {A : Option Addr} {c a : Nat} {l : List Int} {w : World} (h : Kd.C (Kd.int .i64) w A l.length l) (hc : l.length ≤ c) (ha : a ≤ l.length) : ∃ X, (∀ W : World, (Instr.slice 28 (.slice A l.length c) none (some (.int .i64 (a : Int))) none).run Try.prog W = .ok (.slice X a c) W) ∧ Kd.C (Kd.int .i64) w X a (l.take a) := ⟨_, slice_to A l.length c a (by omega), C_take h hc ha⟩
def va (vs : List Value) (j : Nat) : Value := vs.getD j (.slice none 0 0)
theorem va_set (gs : List Value) (i j : Nat) (x : Value) : va (gs.set i x) j = if i = j ∧ j < gs.length then x else va gs j := by
 unfold va
 simp only [List.getD_eq_getElem?_getD, List.getElem?_set]
 by_cases h : i = j
 ·subst h
  by_cases h2 : i < gs.length <;> simp [h2]
 ·simp [h]
theorem va_of {vs : List Value} {j : Nat} (h : j < vs.length) : vs[j]? = some (va vs j) := by
 unfold va
 simp [List.getD_eq_getElem?_getD, h]
structure Rows2 (w : World) (B bo : Nat) (vs : List Value) (gs : List (List Int)) : Prop where
 len : vs.length = gs.length
 out : w.heap[bo]? = some (.cells vs.toArray 28 (0, 0))
 own : ∀ j, j < gs.length → w.ownsRow B 3 1 (va vs j) (gl gs j).length (encs (Value.int .i64) (gl gs j))
 col : ∃ f : Nat → Nat, ∀ j, j < gs.length → ∀ k, (va vs j).ownBlock = some k → f k = j ∧ k ≠ bo
 base : B ≤ w.heap.size
theorem Rows2.cell {w : World} {B bo : Nat} {vs : List Value} {gs : List (List Int)} (h : Rows2 w B bo vs gs) {j : Nat} (hj : j < gs.length) : w.cell? ⟨bo, j, none⟩ = some (va vs j) := by
 have hl := h.len
 exact heap_cell h.out (by simp [va_of (show j < vs.length by omega)])
theorem Rows2.free {w : World} {B bo : Nat} {vs : List Value} {gs : List (List Int)} (h : Rows2 w B bo vs gs) (j : Nat) : w.frozen? ⟨bo, j, none⟩ = false := heap_free h.out j
theorem Rows2.below {w w1 : World} {B bo : Nat} {vs : List Value} {gs : List (List Int)} (h : Rows2 w B bo vs gs) (hb : Below w.heap.size w w1) : Rows2 w1 B bo vs gs :=
 ⟨h.len, (hb.block _ (lt_of h.out)).trans h.out, fun j hj => own_move (h.own j hj) (fun k hk => hb.block k ((h.own j hj).lt k hk).2), h.col, Nat.le_trans h.base hb.size⟩
theorem Rows2.put {w w1 : World} {B bo : Nat} {vs : List Value} {gs : List (List Int)} (h : Rows2 w B bo vs gs) (hb : Below w.heap.size w w1) {k : Nat} (hk : k < gs.length) {v' : Value} {g' : List Int}
  (hown : w1.ownsRow w.heap.size 3 1 v' g'.length (encs (Value.int .i64) g')) : Rows2 (w1.setCell ⟨bo, k, none⟩ v') B bo (vs.set k v') (gs.set k g') := by
 have hl := h.len
 have hbo := lt_of h.out
 obtain ⟨f, hf⟩ := h.col
 have h1 := h.below hb
 refine ⟨by simp [h.len], ?_, ?_, ⟨fun b => if v'.ownBlock = some b then k else f b, ?_⟩, by simpa [World.setCell] using h1.base⟩
 ·rw [heap_set h1.out]; simp
 ·intro j hj
  rw [List.length_set] at hj
  rw [gl_set, va_set]
  by_cases hkj : k = j
  ·subst hkj
   rw [if_pos ⟨rfl, by omega⟩, if_pos ⟨rfl, by omega⟩]
   exact own_low (own_move hown (fun q hq => Below.heap_setCell _ _ _ _ (fun e => by have := (hown.lt q hq).1; simp at e; omega))) h.base
  ·rw [if_neg (by simp [hkj]), if_neg (by simp [hkj])]
   exact own_move (h1.own j hj) (fun q hq => Below.heap_setCell _ _ _ _ (fun e => (hf j hj q hq).2 e))
 ·intro j hj q hq
  rw [List.length_set] at hj
  rw [va_set] at hq
  by_cases hkj : k = j
  ·subst hkj
   rw [if_pos ⟨rfl, by omega⟩] at hq
   exact ⟨by simp [hq], fun e => by have := (hown.lt q hq).1; omega⟩
  ·rw [if_neg (by simp [hkj])] at hq
   refine ⟨?_, (hf j hj q hq).2⟩
   show (if v'.ownBlock = some q then k else f q) = j
   rw [if_neg (fun e => by have h2 := (hown.lt q e).1; have h3 := ((h.own j hj).lt q hq).2; omega)]
   exact (hf j hj q hq).1
theorem Rows2.edit {w w1 : World} {B bo : Nat} {vs : List Value} {gs : List (List Int)} (h : Rows2 w B bo vs gs) (hs : w.heap.size ≤ w1.heap.size) {k : Nat} (hk : k < gs.length) (hb : ∀ b, b < w.heap.size → (va vs k).ownBlock ≠ some b → w1.heap[b]? = w.heap[b]?) {g' : List Int}
  (hown : w1.ownsRow B 3 1 (va vs k) g'.length (encs (Value.int .i64) g')) : Rows2 w1 B bo vs (gs.set k g') := by
 obtain ⟨f, hf⟩ := h.col
 refine ⟨by simp [h.len], (hb bo (lt_of h.out) (fun e => (hf k hk bo e).2 rfl)).trans h.out, ?_, ⟨f, fun j hj => hf j (by simpa using hj)⟩, Nat.le_trans h.base hs⟩
 intro j hj
 rw [List.length_set] at hj
 rw [gl_set]
 by_cases hkj : k = j
 ·subst hkj
  rw [if_pos ⟨rfl, hj⟩]
  exact hown
 ·rw [if_neg (by simp [hkj])]
  exact own_move (h.own j hj) (fun q hq => hb q ((h.own j hj).lt q hq).2 (fun e => hkj (by rw [← (hf k hk q e).1, ← (hf j hj q hq).1])))
theorem info_ints : (Try.prog.info? 28).map (fun i => (i.zero, i.size, i.bytes)) = some (some (.slice none 0 0), 1, 24) := by kernel_rfl
theorem made_nil (n : Nat) : madeCells #[.slice none 0 0] n = Array.replicate n (Value.slice none 0 0) := by
 apply Array.ext
 ·simp [madeCells]
 ·intro i h1 h2
  simp [madeCells, Nat.mod_one]
theorem va_nil (n j : Nat) : va (List.replicate n (.slice none 0 0)) j = .slice none 0 0 := by
 unfold va
 by_cases h : j < n <;> simp [List.getD_eq_getElem?_getD, List.getElem?_replicate, h]
theorem gl_nil (n j : Nat) : gl (List.replicate n []) j = [] := by
 unfold gl
 by_cases h : j < n <;> simp [List.getD_eq_getElem?_getD, List.getElem?_replicate, h]
theorem Rows2.start (w : World) (n : Nat) : Rows2 (w.alloc (.cells (Array.replicate n (Value.slice none 0 0)) 28 (0, 0))) (w.heap.size + 1) w.heap.size (List.replicate n (.slice none 0 0)) (List.replicate n []) := by
 refine ⟨by simp, by rw [heap_last]; simp, fun j hj => ?_, ⟨fun _ => 0, fun j hj k hk => ?_⟩, by simp⟩
 ·rw [va_nil, gl_nil]
  exact own_nil _ _ _ _
 ·rw [va_nil] at hk
  simp [Value.ownBlock] at hk
theorem Rows2.lower {w : World} {B B' bo : Nat} {vs : List Value} {gs : List (List Int)} (h : Rows2 w B bo vs gs) (hb : B' ≤ B) : Rows2 w B' bo vs gs := ⟨h.len, h.out, fun j hj => own_low (h.own j hj) hb, h.col, by have := h.base; omega⟩
theorem Rows2.tells {w : World} {B bo base : Nat} {vs : List Value} {gs : List (List Int)} (h : Rows2 w B bo vs gs) (hb : base ≤ bo) (hB : base ≤ B) (hl : gs.length ≤ 9223372036854775807) :
  Kd.S KR 28 w base (fun _ => True) (.slice (some ⟨bo, 0, none⟩) gs.length gs.length) gs := by
 obtain ⟨f, hf⟩ := h.col
 have hlen := h.len
 have hsz : (Kd.tag f KR).sz = 1 := rfl
 refine ⟨f, fun _ _ => trivial, vs, ⟨by simp [h.len, hsz], .inr ⟨bo, gs.length, vs.toArray, by simp, hb, h.out, by simp, by unfold maxLen; simpa using hl, by simp [h.len, hsz], ?_⟩⟩, by simp [h.len, hsz], fun j p hj => ?_⟩
 ·rw [List.take_of_length_le]
  rw [List.length_zipIdx, hsz]
  simp [hlen]
 ·rw [List.getElem?_zipIdx] at hj
  obtain ⟨g, hg, rfl⟩ := Option.map_eq_some_iff.1 hj
  have hj2 : j < gs.length := (List.getElem?_eq_some_iff.1 hg).1
  have e1 : gl gs j = g := by unfold gl; rw [List.getD_eq_getElem?_getD, hg]; rfl
  have e2 : (vs.drop (j * 1)).take 1 = [va vs j] := by
   rw [Nat.mul_one, List.drop_eq_getElem_cons (by rw [h.len]; exact hj2), List.take_succ_cons, List.take_zero]
   simp [va, List.getD_eq_getElem?_getD, h.len, hj2]
  refine ⟨va vs j, e2, ?_⟩
  have ho := own_low (h.own j hj2) hB
  rw [e1] at ho
  refine Kd.R_of_own ho (fun k hk => ?_)
  have := hf j hj2 k hk
  refine ⟨⟨trivial, fun e => this.2 (Option.some.inj (show some k = some bo from e))⟩, ?_⟩
  show f k = 0 + j
  omega
def lits (w : World) : List (List Int) → World
 | [] => w
 | l :: t => lits (w.alloc (.cells (l.map (Value.int .i64)).toArray 3 (0, 0))) t
def outer (b : Nat) : List (List Int) → List Value
 | [] => []
 | l :: t => .slice (some ⟨b, 0, none⟩) l.length l.length :: outer (b + 1) t
theorem outer_at (r : List (List Int)) : ∀ (b j : Nat), j < r.length → (outer b r)[j]? = some (.slice (some ⟨b + j, 0, none⟩) (gl r j).length (gl r j).length) := by
 induction r with
 | nil => intro b j h; simp at h
 | cons l t ih =>
  intro b j h
  cases j with
  | zero => simp [outer, gl]
  | succ j =>
   have := ih (b + 1) j (by simpa using h)
   rw [show b + 1 + j = b + (j + 1) by omega] at this
   simpa [outer, gl] using this
theorem lits_size (r : List (List Int)) : ∀ w, (lits w r).heap.size = w.heap.size + r.length := by
 induction r with
 | nil => intro w; rfl
 | cons l t ih => intro w; rw [lits, ih]; simp; omega
theorem lits_below (r : List (List Int)) : ∀ w, Below w.heap.size w (lits w r) := by
 induction r with
 | nil => intro w; exact Below.refl _ _
 | cons l t ih =>
  intro w
  have h1 := (Below.refl w.heap.size w).alloc (Nat.le_refl _) (.cells (l.map (Value.int .i64)).toArray 3 (0, 0))
  exact h1.trans ((ih _).mono h1.size)
theorem lits_at (r : List (List Int)) : ∀ w (j : Nat), j < r.length → IRow (lits w r) (w.heap.size + j) (gl r j) := by
 induction r with
 | nil => intro w j h; simp at h
 | cons l t ih =>
  intro w j h
  cases j with
  | zero =>
   have hb := lits_below t (w.alloc (.cells (l.map (Value.int .i64)).toArray 3 (0, 0)))
   exact (hb.block _ (by simp)).trans (heap_last w _)
  | succ j =>
   have := ih (w.alloc (.cells (l.map (Value.int .i64)).toArray 3 (0, 0))) j (by simpa using h)
   rw [show (w.alloc (.cells (l.map (Value.int .i64)).toArray 3 (0, 0))).heap.size + j = w.heap.size + (j + 1) by simp; omega] at this
   exact this
theorem row_reads {w : World} {b : Nat} {l : List Int} (h : IRow w b l) (hl : l.length ≤ 9223372036854775807) : Kd.C (Kd.int .i64) w (some ⟨b, 0, none⟩) l.length l :=
 (Kd.R_reads' (IRow.own (base := 0) (ok := fun _ => True) h (Nat.zero_le _) hl trivial)).2.2
theorem lits_reads (w : World) (r : List (List Int)) (hr : r.length ≤ 9223372036854775807) (hl : ∀ j, j < r.length → (gl r j).length ≤ 9223372036854775807) :
  Kd.C KR ((lits w r).alloc (.cells (outer w.heap.size r).toArray 28 (0, 0))) (some ⟨w.heap.size + r.length, 0, none⟩) r.length r := by
 refine ⟨rfl, hr, fun _ => ⟨_, rfl, fun j p hj => ?_⟩⟩
 have hj2 : j < r.length := (List.getElem?_eq_some_iff.1 hj).1
 have e1 : gl r j = p := by unfold gl; rw [List.getD_eq_getElem?_getD, hj]; rfl
 refine ⟨[.slice (some ⟨w.heap.size + j, 0, none⟩) p.length p.length], rfl, ⟨_, _, rfl, Nat.le_refl _, ?_⟩, fun i u hu => ?_⟩
 ·have h := heap_old (lits_at r w j hj2) (.cells (outer w.heap.size r).toArray 28 (0, 0))
  rw [e1] at h
  exact row_reads h (by rw [← e1]; exact hl j hj2)
 ·obtain rfl : i = 0 := by
   rcases i with _ | i
   ·rfl
   ·simp at hu
  have h := heap_last (lits w r) (.cells (outer w.heap.size r).toArray 28 (0, 0))
  rw [lits_size] at h
  rw [add_plain]
  have hsz : KR.sz = 1 := rfl
  refine heap_cell h ?_
  rw [hsz, Nat.mul_one, Nat.add_zero, List.getElem?_toArray, outer_at r _ j hj2, e1]
  simpa using hu
theorem lits_all (w : World) (r : List (List Int)) : Below w.heap.size w ((lits w r).alloc (.cells (outer w.heap.size r).toArray 28 (0, 0))) := (lits_below r w).alloc (by rw [lits_size]; omega) _
end Go.Proofs.Ytkkhhbegeboonaa.Mem
namespace Go.Proofs.Ytkkhhbegeboonaa.Rot
open Go.RowKit Go.Proofs.YtkkhhbegeboonaaW.PrintWords Go.Proofs.YtkkhhbegeboonaaW.PrintLast Go.Proofs.YtkkhhbegeboonaaW.PrintMore Go.Proofs.Ytkkhhbegeboonaa.Mem
set_option linter.unusedVariables false
set_option linter.unusedSimpArgs false
def froms (es : List (Int × Int)) : List Int := es.flatMap fun e => [e.1, e.2]
theorem froms_length (es : List (Int × Int)) : (froms es).length = 2 * es.length := by
 induction es with
 | nil => rfl
 | cons e es ih => unfold froms at ih ⊢; rw [List.flatMap_cons, List.length_append, ih]; simp; omega
theorem froms_take {es : List (Int × Int)} {i : Nat} (h : i < es.length) : froms (es.take (i + 1)) = froms (es.take i) ++ [(pe es i).1, (pe es i).2] := by
 unfold froms
 rw [List.take_succ_eq_append_getElem h, List.flatMap_append]
 simp [pe, List.getD_eq_getElem?_getD, h]
theorem cell_two_new (w : World) (x y : Value) (t : TypeId) : ∀ j u, [x, y][j]? = some u → (w.alloc (.cells #[x, y] t)).cell? ((⟨w.heap.size, 0, none⟩ : Addr).add j) = some u := by
 intro j u hj
 rw [add_plain]
 exact heap_cell (heap_last w _) (by simpa using hj)
set_option maxHeartbeats 1000000 in
set_option maxRecDepth 100000 in
theorem begins_calls (n : Int) (A : Option Addr) (c : Nat) (es : List (Int × Int)) (w : World) (he : Pairs w A es) (hl : es.length ≤ 4194304) :
  Calls Try.prog 40 #[.agg #[.int .i64 n, .slice A es.length c]] w fun e w' => ∃ v, e = .returned v ∧ Kd.R (Kd.int .i64) 3 w' w.heap.size (fun _ => True) v (froms es) ∧ Below w.heap.size w w' := by
 have HE := Aside0.mk he
 have HB := Aside0.mk ((Below.refl w.heap.size w).alloc (Nat.le_refl _) (.cells #[.int .i64 n, .slice A es.length c] 24 (0, 0)))
 have HX := Aside0.mk (heap_last w (.cells #[.int .i64 n, .slice A es.length c] 24 (0, 0)))
 clear he
 have mk : ∀ W : World, (Instr.makeSlice 28 (.int .i64 0) (.int .i64 (2 * (es.length : Int)))).run Try.prog W = .ok (.slice (some ⟨W.heap.size, 0, none⟩) 0 (2 * es.length)) (W.alloc (.cells (madeCells #[.int .i64 0] (2 * es.length)) 3)) := by
  intro W
  obtain ⟨i0, hi, hz0, hz1, hz2⟩ := info_parts info_int
  have h := run_make (P := Try.prog) W 28 3 i0 (.int .i64 0) Try.underlying28 hi hz0 .i64 .i64 0 (2 * (es.length : Int)) (by omega) (by omega) (by rw [hz2]; omega) (by omega)
  rw [hz1, Nat.mul_one, show (2 * (es.length : Int)).toNat = 2 * es.length by omega] at h
  exact h
 have x1 : (w.alloc (.cells #[.int .i64 n, .slice A es.length c] 24 (0, 0))).cell? ⟨w.heap.size, 1, none⟩ = some (.slice A es.length c) := heap_cell HX.out rfl
 go_enter Try.func40, Try.ntmps40
 go_wp2_with fail
 clear mk
 have HB2 : Aside0 (Below w.heap.size w ((w.alloc (.cells #[.int .i64 n, .slice A es.length c] 24 (0, 0))).alloc (.cells (madeCells #[.int .i64 0] (2 * es.length)) 3))) := ⟨HB.out.alloc HB.out.size _⟩
 have HO : Aside0 (((w.alloc (.cells #[.int .i64 n, .slice A es.length c] 24 (0, 0))).alloc (.cells (madeCells #[.int .i64 0] (2 * es.length)) 3)).ownsRow w.heap.size 3 1 (.slice (some ⟨w.heap.size + 1, 0, none⟩) 0 (2 * es.length)) 0 []) := ⟨by
  have h := World.ownsRow_made (base := w.heap.size) (size := 1) (e := 3) (w.alloc (.cells #[.int .i64 n, .slice A es.length c] 24 (0, 0))) (madeCells #[.int .i64 0] (2 * es.length)) (2 * es.length) (by simp) (by unfold maxLen; omega) (by simp [size_madeCells])
  simpa using h⟩
 generalize (w.alloc (.cells #[.int .i64 n, .slice A es.length c] 24 (0, 0))).alloc (.cells (madeCells #[.int .i64 0] (2 * es.length)) 3) = w2 at HB2 HO ⊢
 clear HB HX x1
 obtain ⟨i0, hi0, hz0, hz1, hz2⟩ := info_parts info_int
 go_loopw [3, 14] (fun s y wr => ∃ (i : Nat) (B : Option Addr) (cc : Nat), s = .slice B (2 * i) cc ∧ y = .int .i64 (i : Int) ∧ i ≤ es.length ∧ Aside0 (wr.ownsRow w.heap.size 3 1 (.slice B (2 * i) cc) (froms (es.take i)).length (encs (Value.int .i64) (froms (es.take i)))) ∧ Aside0 (Below w.heap.size w wr)) (fun _ y _ => es.length - (intOf y).toNat)
 case atStart => exact ⟨0, _, _, rfl, rfl, by omega, HO, HB2⟩
 case round =>
  clear HO HB2
  obtain ⟨i, B, cc, rfl, rfl, hi, HO, HB⟩ := hrel
  by_cases hlt : i < es.length
  ·obtain ⟨ad, eA, h1, h2⟩ := (HE.out.below HB.out) i hlt
   subst eA
   obtain ⟨x, hx⟩ : ∃ x, x = (pe es i).1 := ⟨_, rfl⟩
   obtain ⟨y, hy⟩ : ∃ y, y = (pe es i).2 := ⟨_, rfl⟩
   have HF := Aside0.mk (froms_take hlt)
   rw [← hx] at h1 HF
   rw [← hy] at h2 HF
   clear hx hy
   have hfl := froms_length (es.take i)
   rw [List.length_take, Nat.min_eq_left hi] at hfl
   have HFL := Aside0.mk hfl
   clear hfl
   rw [HFL.out] at HO
   have HO2 := Aside0.mk ((HO.out.alloc (.cells #[.int .i64 x, .int .i64 y] 59)).alloc (.cells #[.int .i64 x, .int .i64 y] 3))
   have HB2 := Aside0.mk ((HB.out.alloc HB.out.size (.cells #[.int .i64 x, .int .i64 y] 59)).alloc (by have := HB.out.size; simp; omega) (.cells #[.int .i64 x, .int .i64 y] 3))
   have hsz := HB.out.size
   go_wp2_with (at_builtin; go_loud (refine wpList_append_own_at _ rfl _ _ 28 rfl w.heap.size 3 i0 (.int .i64 0) 1 8 Try.underlying28 hi0 hz0 hz1 hz2 rfl (by decide) (.slice B (2 * i) cc) (2 * i) _ rfl HO2.out ⟨wr.heap.size + 1, 0, none⟩ 2 2 [.int .i64 x, .int .i64 y] rfl rfl ?c1 ?c2 ?c3 ?c4 ?c5 ?_))
   case c1 =>
    have := cell_two_new (wr.alloc (.cells #[.int .i64 x, .int .i64 y] 59)) (.int .i64 x) (.int .i64 y) 3
    simpa using this
   case c2 => intro u hu; simp at hu; rcases hu with rfl | rfl <;> rfl
   case c3 => unfold maxLen; omega
   case c4 => omega
   case c5 => simp; omega
   intro v' w3 hown hgrow _ hat
   obtain ⟨B', cc', rfl⟩ := own_slice hown
   rw [show 2 * i + 2 = 2 * (i + 1) by omega] at hown ⊢
   have HB3 := Aside0.mk (HB2.out.grown hgrow (by simp; omega) (fun k hk => (HO2.out.lt k hk).1))
   have HO3 : Aside0 (w3.ownsRow w.heap.size 3 1 (.slice B' (2 * (i + 1)) cc') (froms (es.take (i + 1))).length (encs (Value.int .i64) (froms (es.take (i + 1))))) := ⟨by
    have e : 2 * (i + 1) = (froms (es.take i) ++ [x, y]).length := by rw [List.length_append, HFL.out]; rfl
    rw [HF.out, ← e]
    simpa [encs] using hown⟩
   clear hown hgrow hat HO HO2 HB HB2 h1 h2
   go_wp2_with fail
   go_roundw
   case rel => exact ⟨i + 1, B', cc', rfl, by go_num, by omega, HO3, HB3⟩
   case measure => simp [intOf]; omega
  ·obtain rfl : i = es.length := by omega
   go_wp2_with fail
   go_ret
   rw [List.take_length] at HO
   exact ⟨_, rfl, Kd.R_of_own HO.out (fun _ _ => trivial), HB.out⟩
end Go.Proofs.Ytkkhhbegeboonaa.Rot
