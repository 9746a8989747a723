/- DERIVED. Texts of this seat, one behind the other: lemmas and walks that the statement CompsMemory needs. No condition. -/
import Derived.Test.YtoajoklpbfehiaaCCompsMemorya
import Derived.Laws.StructEq
import Derived.Test.YtoajoklpbfehiaaProg
import Derived.Below
import Derived.Deep.Draws
import Derived.Deep.AppendLies
import Derived.Maps.AppendAt
import Derived.OwnWalk
import Derived.Laws.BytesArg
import Derived.Laws.MakeOwn
import Derived.Laws.OwnMore
import Derived.Deep.OwnRows
import Derived.Tactics
import Derived.Lib.ConvBytes
import Derived.Laws.Slices
import Derived.WalkKit
import Derived.KernelRfl
import Derived.RowKit3
import Derived.Deep.LoopGhost
import Derived.Deep.QuietTactic
import Derived.BigQuiet
import Derived.WideLaws
import Derived.Deep.DeepCutAuto
import Derived.Deep.CutBlock
import Derived.Deep.RegionHeld3
import Derived.Laws.Rows
import Derived.Lib.AppendStr
import Derived.ArgAppend
import Derived.Laws.IdiomCopy
import Derived.OrdersHeld
import Derived.Laws.BitsLemmas
import Derived.RowKit
namespace Go.Proofs.YtoajoklpbfehiaaW.PrintLast
open Go.Proofs.YtoajoklpbfehiaaW.PrintWords (Aside0)
def needsOf (md : Region.Mode) (o : Oper) : List Nat := (o.after.toList.filter (fun e => Region.binds md e)).map (fun e => e.on)
def clashOf (md : Region.Mode) (ops : Array Oper) (i : Nat) (oi : Oper) : List Nat := (List.range ops.size).filter fun j => !(j == i) && match ops[j]? with
 | some oj => !(oj.after.any (fun e => Region.binds md e && e.on == i) || oi.apart ops oj)
 | none => false
def rtab (md : Region.Mode) (ops : Array Oper) : Bool × List (List Nat × List Nat) := (Region.noSelect ops, (List.range ops.size).map fun i => match ops[i]? with
 | some o => (needsOf md o, clashOf md ops i o)
 | none => ([], []))
def readyAt (T : List (List Nat × List Nat)) (l : List Bool) (i : Nat) : Bool := !l.getD i true && match T[i]? with
 | some r => r.1.all (fun j => l.getD j false)
 | none => false
def readyT (T : List (List Nat × List Nat)) (l : List Bool) : List Nat := (List.range T.length).filter (readyAt T l)
def freeT (T : List (List Nat × List Nat)) (l : List Bool) (i : Nat) : Bool := match T[i]? with
 | some r => r.2.all (fun j => l.getD j true)
 | none => false
def closedT (T : List (List Nat × List Nat)) (l : List Bool) : Bool := (List.range T.length).all fun j => !l.getD j false || match T[j]? with
 | some r => r.1.all (fun k => l.getD k false)
 | none => true
def reachT (T : List (List Nat × List Nat)) (i : Nat) : Nat → Nat → Bool
 | 0, _ => false
 | fuel + 1, d => match T[d]? with
   | some r => r.1.any fun j => j == i || reachT T i fuel j
   | none => false
def lastT (T : List (List Nat × List Nat)) (l : List Bool) (ds : List Nat) (i : Nat) : Bool := ds.all fun d => l.getD d true || reachT T i T.length d
section
variable {md : Region.Mode} {ops : Array Oper} {T : Bool × List (List Nat × List Nat)} {l l' li lj lk : Array Bool} {ds : List Nat} {i j k : Nat}
def anyT (T : Bool × List (List Nat × List Nat)) (l l' : List Bool) (i : Nat) : Bool := T.1 && freeT T.2 l i && readyAt T.2 l i && (l.set i true == l')
def takeT (T : Bool × List (List Nat × List Nat)) (ds : List Nat) (l l' : List Bool) (i : Nat) : Bool := T.1 && freeT T.2 l i && readyAt T.2 l i && closedT T.2 l && lastT T.2 l ds i && (l.set i true == l')
def upM (B : List Nat) (d : Nat) : List Nat → Nat
 | [] => 0
 | n :: r => (2 ^ n ||| (if n < d then B.getD n 0 else 0)) ||| upM B d r
def waitsOk (T : List (List Nat × List Nat)) (B : List Nat) : Bool := (List.range T.length).all fun d => match T[d]? with
 | some r => (B.getD d 0 ||| upM B d r.1) == upM B d r.1
 | none => false
def lastW (T : List (List Nat × List Nat)) (B : List Nat) (l : List Bool) (ds : List Nat) (i : Nat) : Bool := ds.all fun d => l.getD d true || (decide (d < T.length) && (B.getD d 0).testBit i)
def takeW (T : Bool × List (List Nat × List Nat)) (B : List Nat) (ds : List Nat) (l l' : List Bool) (i : Nat) : Bool := T.1 && freeT T.2 l i && readyAt T.2 l i && closedT T.2 l && lastW T.2 B l ds i && (l.set i true == l')
end
def opsIn : Code → Nat → Option (Array Oper)
 | .region id ops _, k => if id == k then some ops else none
 | .seq a b, k => match opsIn a k with
   | some o => some o
   | none => opsIn b k
 | .cond _ a b, k => match opsIn a k with
   | some o => some o
   | none => opsIn b k
 | .block _ c, k => opsIn c k
 | .loop c, k => opsIn c k
 | .scope c, k => opsIn c k
 | .rangeFunc _ _ a b, k => match opsIn a k with
   | some o => some o
   | none => opsIn b k
 | _, _ => none
def opsOf (f : Func) (k : Nat) : Array Oper := ((f.body.bind fun c => opsIn c k)).getD #[]
end Go.Proofs.YtoajoklpbfehiaaW.PrintLast
namespace Go.Proofs.YtoajoklpbfehiaaW.PrintLast
section
variable {P : Program} {ops : Array Oper} {Q : Exit → Act → World → Prop} {md : Region.Mode} {S : World → Prop} {ds : List Nat} {T : Bool × List (List Nat × List Nat)}
end
end Go.Proofs.YtoajoklpbfehiaaW.PrintLast
namespace Go.Proofs.YtoajoklpbfehiaaW.PrintWords
open Go.RowKit
namespace Kd
section
variable {α : Type} {d : Kd α} {e base g o n cap : Nat} {ok okp : Nat → Prop} {w W : World} {v : Value} {xs : List α}
end
section
variable {α : Type} {enc : α → Value} {h1 : ∀ x, (enc x).oneCell' = true} {e base g o n cap : Nat} {ok : Nat → Prop} {W : World} {xs : List α}
end
end Kd
end Go.Proofs.YtoajoklpbfehiaaW.PrintWords
namespace Go.Proofs.YtoajoklpbfehiaaW.PrintWords
open Go.RowKit
namespace Kd
def tag {α : Type} (f : Nat → Nat) (d : Kd α) : Kd (α × Nat) where
 sz := d.sz
 E := d.E
 K := fun w x cs => d.K w x.1 cs
 M := fun w base ok x cs => d.M w base (fun k => ok k ∧ f k = x.2) x.1 cs
 K_len := fun h => d.K_len h
 K_one := fun h => d.K_one h
 K_below := fun hb h => d.K_below hb h
 K_of_M := fun h => d.K_of_M h
 M_mono := fun hok h => d.M_mono (fun k hk => ⟨hok k hk.1, hk.2⟩) h
 M_bound := fun h => d.M_mono (fun _ hk => ⟨⟨hk.1.1, hk.2⟩, hk.1.2⟩) (d.M_bound h)
 M_move := fun hm h => d.M_move (fun k hk => hm k hk.1) h
 M_lower := fun hb h => d.M_lower hb h
def bare {α : Type} (d : Kd α) : Kd α where
 sz := d.sz
 E := d.E
 K := d.K
 M := fun w base _ x cs => d.M w base (fun _ => False) x cs
 K_len := fun h => d.K_len h
 K_one := fun h => d.K_one h
 K_below := fun hb h => d.K_below hb h
 K_of_M := fun h => d.K_of_M h
 M_mono := fun _ h => h
 M_bound := fun h => h
 M_move := fun _ h => d.M_move (fun _ hk => hk.elim) h
 M_lower := fun hb h => d.M_lower hb h
def raw (sz : Nat) : Kd (List Value) where
 sz := sz
 E := []
 K := fun _ x cs => cs = x ∧ cs.length = sz ∧ ∀ u ∈ cs, u.oneCell' = true
 M := fun _ _ _ x cs => cs = x ∧ cs.length = sz ∧ ∀ u ∈ cs, u.oneCell' = true
 K_len := fun h => h.2.1
 K_one := fun h => h.2.2
 K_below := fun _ h => h
 K_of_M := fun h => h
 M_mono := fun _ h => h
 M_bound := fun h => h
 M_move := fun _ h => h
 M_lower := fun _ h => h
def S {α : Type} (d : Kd α) (e : Nat) (w : World) (base : Nat) (ok : Nat → Prop) (v : Value) (xs : List α) : Prop := ∃ f, (tag f d).R e w base ok v xs.zipIdx
section
variable {α β : Type} {d : Kd α} {d' : Kd β} {e e' : Nat} {w w1 W : World} {base b : Nat} {ok ok' okv oku : Nat → Prop} {u v : Value} {xs : List α} {ys : List β}
theorem zip_at {xs : List α} {j : Nat} {p : α} (h : xs[j]? = some p) : xs.zipIdx[j]? = some (p, j) := by rw [List.getElem?_zipIdx, h, Nat.zero_add]; rfl
theorem S_R (h : S d e w base ok v xs) : d.R e w base ok v xs := by
 obtain ⟨f, h0, inner, ho, hr⟩ := h
 rw [List.length_zipIdx] at ho
 exact ⟨h0, inner, ho, by have := hr.1; rw [List.length_zipIdx] at this; exact this, fun j p hj => d.M_mono (fun _ hk => hk.1) (hr.2 j (p, j) (zip_at hj))⟩
theorem R_head {ad : Addr} {n cap : Nat} (h : d.R e w base ok (.slice (some ad) n cap) xs) : ∃ g, ad = ⟨g, 0, none⟩ := by
 obtain ⟨_, inner, ho, hr⟩ := h
 rcases ho.2 with ⟨hv, _⟩ | ⟨g, cap', cur, hv, _⟩
 · cases hv
 · injection hv with ha _ _
   injection ha with ha
   exact ⟨g, ha⟩
theorem R_tight (hE : d.E = []) (h : d.R e w base ok v xs) : d.R e w base (fun k => some k = v.ownBlock) v xs := by
 obtain ⟨h0, inner, ho, hr⟩ := h
 refine ⟨fun k hk => hk.symm, inner, ho, hr.imp_ (fun p c hp => d.M_mono (fun k hk => ?_) (d.M_bound hp))⟩
 obtain ⟨_, _, _, q, hq, _⟩ := hk
 rw [hE] at hq
 cases hq
theorem S_nil (d : Kd α) (e : Nat) (w : World) (base : Nat) (ok : Nat → Prop) : S d e w base ok (.slice none 0 0) [] := ⟨fun _ => 0, R_nil _ _ _ _ _⟩
theorem S_mono (h : S d e w base ok v xs) (hok : ∀ k, ok k → ok' k) : S d e w base ok' v xs := by
 obtain ⟨f, h⟩ := h
 exact ⟨f, R_mono h hok⟩
theorem S_bound (h : S d e w base ok v xs) : S d e w base (fun k => ok k ∧ base ≤ k ∧ k < w.heap.size ∧ ∃ q, q ∈ e :: d.E ∧ ∃ cells, w.heap[k]? = some (.cells cells q (0, 0))) v xs := by
 obtain ⟨f, h⟩ := h
 exact ⟨f, R_bound h⟩
theorem S_move (h : S d e w base ok v xs) (hm : ∀ k, ok k → w1.heap[k]? = w.heap[k]?) : S d e w1 base ok v xs := by
 obtain ⟨f, h⟩ := h
 exact ⟨f, R_move h hm⟩
theorem S_step (h : S d e w base ok v xs) (hm : ∀ k, ok k → k < w.heap.size → w1.heap[k]? = w.heap[k]?) : S d e w1 base ok v xs :=
 S_mono (S_move (S_bound h) (fun k hk => hm k hk.1 hk.2.2.1)) (fun _ hk => hk.1)
theorem S_below (h : S d e w base ok v xs) (hb : Below w.heap.size w w1) : S d e w1 base ok v xs := S_step h (fun k _ hk => hb.block k hk)
end
section
variable {α β : Type} {d : Kd α} {d' : Kd β} {e e' g : Nat} {w w1 W : World} {base b : Nat} {ok ok' okv oku : Nat → Prop} {u v : Value} {xs : List α} {ys : List β}
theorem S_reads' {A : Option Addr} {n c : Nat} (h : S d e w base ok (.slice A n c) xs) : n = xs.length ∧ n ≤ c ∧ d.C w A xs.length xs := R_reads' (S_R h)
end
section
open Classical in
variable {P : Program} {ops : Array Oper} {rest : List Oper} {o : Oper} {a : Act} {Q : Exit → Act → World → Prop} {Kc : Act → World → Prop} {α : Type}
end
def gap {α : Type} (f : Nat → Nat) (d : Kd α) (i : Nat) (c : List Value) : Kd (α × Nat) where
 sz := d.sz
 E := d.E
 K := fun w x cs => (x.2 = i → cs = c ∧ cs.length = d.sz ∧ ∀ u ∈ cs, u.oneCell' = true) ∧ (x.2 ≠ i → d.K w x.1 cs)
 M := fun w base ok x cs => (x.2 = i → cs = c ∧ cs.length = d.sz ∧ ∀ u ∈ cs, u.oneCell' = true) ∧ (x.2 ≠ i → d.M w base (fun k => ok k ∧ f k = x.2) x.1 cs)
 K_len := fun {w x cs} h => by
   by_cases hx : x.2 = i
   · exact (h.1 hx).2.1
   · exact d.K_len (h.2 hx)
 K_one := fun {w x cs} h => by
   by_cases hx : x.2 = i
   · exact (h.1 hx).2.2
   · exact d.K_one (h.2 hx)
 K_below := fun hb h => ⟨h.1, fun hx => d.K_below hb (h.2 hx)⟩
 K_of_M := fun h => ⟨h.1, fun hx => d.K_of_M (h.2 hx)⟩
 M_mono := fun hok h => ⟨h.1, fun hx => d.M_mono (fun k hk => ⟨hok k hk.1, hk.2⟩) (h.2 hx)⟩
 M_bound := fun h => ⟨h.1, fun hx => d.M_mono (fun _ hk => ⟨⟨hk.1.1, hk.2⟩, hk.1.2⟩) (d.M_bound (h.2 hx))⟩
 M_move := fun hm h => ⟨h.1, fun hx => d.M_move (fun k hk => hm k hk.1) (h.2 hx)⟩
 M_lower := fun hb h => ⟨h.1, fun hx => d.M_lower hb (h.2 hx)⟩
def H {α : Type} (d : Kd α) (e : Nat) (w : World) (base : Nat) (ok : Nat → Prop) (v : Value) (xs : List α) (i : Int) (oki : Nat → Prop) (c : List Value) : Prop :=
 (∀ k, oki k → ok k) ∧ ∃ f, (gap f d i.toNat c).R e w base (fun k => ok k ∧ ¬ oki k) v xs.zipIdx
section
variable {α β : Type} {d : Kd α} {e e' g n cap : Nat} {w w1 W : World} {base : Nat} {ok ok' oki okp : Nat → Prop} {u v : Value} {xs : List α} {i : Int} {c : List Value}
open Classical in
end
section
variable {P : Program} {ops : Array Oper} {rest : List Oper} {o : Oper} {a : Act} {Q : Exit → Act → World → Prop} {α : Type}
end
end Kd
end Go.Proofs.YtoajoklpbfehiaaW.PrintWords
namespace Go.Proofs.YtoajoklpbfehiaaW.PrintWords
open Go.RowKit
namespace Kd
theorem reps_one {α : Type} {R : α → List Value → Prop} {size : Nat} {ps : List α} {cs : List Value} (h : Reps R size ps cs) (hs0 : 0 < size) (hR : ∀ p c, R p c → ∀ u ∈ c, u.oneCell' = true) : ∀ u ∈ cs, u.oneCell' = true := by
 intro u hu
 obtain ⟨q, hq, rfl⟩ := List.mem_iff_getElem.1 hu
 have hql : q / size < ps.length := by
   rw [Nat.div_lt_iff_lt_mul hs0, ← h.1]
   exact hq
 refine hR _ _ (h.2 (q / size) _ (List.getElem?_eq_getElem hql)) _ ?_
 rw [List.mem_iff_getElem?]
 refine ⟨q % size, ?_⟩
 rw [List.getElem?_take, if_pos (Nat.mod_lt _ hs0), List.getElem?_drop, Nat.mul_comm, Nat.div_add_mod, List.getElem?_eq_getElem hq]
def arr {α : Type} (n : Nat) (d : Kd α) (hs : 0 < d.sz) : Kd (List α) where
 sz := n * d.sz
 E := d.E
 K := fun w xs cs => xs.length = n ∧ Reps (d.K w) d.sz xs cs
 M := fun w base ok xs cs => xs.length = n ∧ Reps (d.M w base ok) d.sz xs cs
 K_len := fun h => by rw [← h.1]; exact h.2.1
 K_one := fun h => reps_one h.2 hs (fun _ _ hk => d.K_one hk)
 K_below := fun hb h => ⟨h.1, h.2.imp_ (fun _ _ hk => d.K_below hb hk)⟩
 K_of_M := fun h => ⟨h.1, h.2.imp_ (fun _ _ hk => d.K_of_M hk)⟩
 M_mono := fun hok h => ⟨h.1, h.2.imp_ (fun _ _ hk => d.M_mono hok hk)⟩
 M_bound := fun h => ⟨h.1, h.2.imp_ (fun _ _ hk => d.M_bound hk)⟩
 M_move := fun hm h => ⟨h.1, h.2.imp_ (fun _ _ hk => d.M_move hm hk)⟩
 M_lower := fun hb h => ⟨h.1, h.2.imp_ (fun _ _ hk => d.M_lower hb hk)⟩
section
variable {α : Type} {n : Nat} {d : Kd α} {hs : 0 < d.sz} {w : World} {base : Nat} {ok : Nat → Prop} {xs : List α} {cs : List Value}
end
section
variable {α : Type} {n : Nat} {enc : α → Value} {h1 : ∀ x, (enc x).oneCell' = true} {hs : 0 < (scalar enc h1).sz} {w : World} {base : Nat} {ok : Nat → Prop} {xs : List α} {cs : List Value}
theorem reps_encs (h : Reps (fun (x : α) (cs : List Value) => cs = [enc x]) 1 xs cs) : cs = encs enc xs := by
 apply List.ext_getElem?
 intro j
 have hl := h.1
 rw [Nat.mul_one] at hl
 rcases Nat.lt_or_ge j xs.length with hj | hj
 · have h2 := h.2 j _ (List.getElem?_eq_getElem hj)
   have hj' : j < cs.length := by omega
   rw [Nat.mul_one, List.drop_eq_getElem_cons hj'] at h2
   have h5 := congrArg List.head? h2
   rw [List.take_succ_cons] at h5
   have h4 : cs[j] = enc xs[j] := Option.some.inj h5
   rw [List.getElem?_eq_getElem hj', h4]
   simp [encs, List.getElem?_eq_getElem hj]
 · rw [List.getElem?_eq_none (by omega), List.getElem?_eq_none (by rw [encs_length]; omega)]
end
end Kd
end Go.Proofs.YtoajoklpbfehiaaW.PrintWords
namespace Go.Proofs.YtoajoklpbfehiaaW.PrintWords
open Go.RowKit
section
variable {P : Program}
end
namespace Kd
section
variable {P : Program} {ops : Array Oper} {rest : List Oper} {o : Oper} {a : Act} {Q : Exit → Act → World → Prop} {Kc : Act → World → Prop} {α : Type}
end
def tagO {α : Type} (f : Nat → Nat) (d : Kd α) : Kd (α × Option Nat) where
 sz := d.sz
 E := d.E
 K := fun w x cs => d.K w x.1 cs
 M := fun w base ok x cs => d.M w base (fun k => ok k ∧ some (f k) = x.2) x.1 cs
 K_len := fun h => d.K_len h
 K_one := fun h => d.K_one h
 K_below := fun hb h => d.K_below hb h
 K_of_M := fun h => d.K_of_M h
 M_mono := fun hok h => d.M_mono (fun k hk => ⟨hok k hk.1, hk.2⟩) h
 M_bound := fun h => d.M_mono (fun _ hk => ⟨⟨hk.1.1, hk.2⟩, hk.1.2⟩) (d.M_bound h)
 M_move := fun hm h => d.M_move (fun k hk => hm k hk.1) h
 M_lower := fun hb h => d.M_lower hb h
section
variable {α : Type} {d : Kd α} {e : Nat} {w : World} {base : Nat} {ok : Nat → Prop} {v : Value} {xs : List α}
def zipO (xs : List α) (z : α) (m : Nat) : List (α × Option Nat) := xs.zipIdx.map (fun p => (p.1, some p.2)) ++ List.replicate m (z, none)
end
section
variable {P : Program} {ops : Array Oper} {rest : List Oper} {o : Oper} {a : Act} {Q : Exit → Act → World → Prop} {Kc : Act → World → Prop} {α : Type}
end
end Kd
end Go.Proofs.YtoajoklpbfehiaaW.PrintWords
namespace Go.Proofs.YtoajoklpbfehiaaW.PrintWords
open Go.RowKit
namespace Kd
structure Heap {α : Type} (d : Kd α) : Prop where
 K : ∀ {w w1 : World} {x : α} {cs : List Value}, (∀ k, k < w.heap.size → w1.heap[k]? = w.heap[k]?) → d.K w x cs → d.K w1 x cs
theorem cell_heap {w w1 : World} (hb : ∀ k, k < w.heap.size → w1.heap[k]? = w.heap[k]?) {a : Addr} {v : Value} (h : w.cell? a = some v) : w1.cell? a = some v := by
 have := hb a.block (World.block_lt_of_cell? w a h)
 simpa [World.cell?, this] using h
theorem Heap.C {α : Type} {d : Kd α} (hd : Heap d) {w w1 : World} {A : Option Addr} {n : Nat} {xs : List α} (hb : ∀ k, k < w.heap.size → w1.heap[k]? = w.heap[k]?) (h : d.C w A n xs) : d.C w1 A n xs :=
 ⟨h.1, h.2.1, fun hn => by
   obtain ⟨ad, e, hc⟩ := h.2.2 hn
   refine ⟨ad, e, fun j p hj => ?_⟩
   obtain ⟨c, hs, hr, hcell⟩ := hc j p hj
   exact ⟨c, hs, hd.K hb hr, fun i u hu => cell_heap hb (hcell i u hu)⟩⟩
section
variable {α : Type} {d : Kd α} {e base g n c : Nat} {ok : Nat → Prop} {w w0 W : World} {A : Option Addr} {xs : List α}
end
end Kd
end Go.Proofs.YtoajoklpbfehiaaW.PrintWords
namespace Go.Proofs.YtoajoklpbfehiaaW.PrintWords
open Go.RowKit
def Kept (w W : World) (S : Nat → Prop) : Prop := w.heap.size ≤ W.heap.size ∧ ∀ i, i < w.heap.size → ¬ S i → W.heap[i]? = w.heap[i]?
section
variable {w W W2 : World} {S S2 S' : Nat → Prop}
theorem Kept.refl (w : World) (S : Nat → Prop) : Kept w w S := ⟨Nat.le_refl _, fun _ _ _ => rfl⟩
theorem Kept.of_below (h : Below w.heap.size w W) (S : Nat → Prop) : Kept w W S := ⟨h.size, fun i hi _ => h.block i hi⟩
theorem Kept.mono (h : Kept w W S) (hs : ∀ k, S k → S' k) : Kept w W S' := ⟨h.1, fun i hi hn => h.2 i hi (fun hk => hn (hs i hk))⟩
theorem Kept.then_ (h : Kept w W S) (k : Kept W W2 S2) (hs : ∀ k, S2 k → S k ∨ w.heap.size ≤ k) : Kept w W2 S :=
 ⟨Nat.le_trans h.1 k.1, fun i hi hn => (k.2 i (Nat.lt_of_lt_of_le hi h.1) (fun h2 => (hs i h2).elim hn (fun h3 => by omega))).trans (h.2 i hi hn)⟩
theorem Kept.below (h : Kept w W S) (hb : Below W.heap.size W W2) : Kept w W2 S := h.then_ (Kept.of_below hb (fun _ => False)) (fun _ hk => hk.elim)
theorem Kept.alloc (h : Kept w W S) (o : Obj) : Kept w (W.alloc o) S := h.below (below_alloc (Below.refl _ _) o)
theorem Kept.drew (h : Kept w W S) : Kept w W.drew S := h
theorem Kept.drewN (h : Kept w W S) (m : Nat) : Kept w (W.drewN m) S := h
theorem Kept.setCell (h : Kept w W S) {p : Addr} (hp : S p.block ∨ w.heap.size ≤ p.block) (u : Value) : Kept w (W.setCell p u) S :=
 h.then_ (S2 := fun k => k = p.block) ⟨by simp [World.setCell], fun i _ hn => Below.heap_setCell W p u i hn⟩ (fun k hk => by rw [hk]; exact hp)
end
namespace Kd
section
variable {α : Type} {d : Kd α} {e base n c : Nat} {ok oki S S2 : Nat → Prop} {w w0 W W1 W2 : World} {v : Value} {A : Option Addr} {xs : List α} {i : Int} {cs : List Value}
end
end Kd
end Go.Proofs.YtoajoklpbfehiaaW.PrintWords
namespace Go.Proofs.YtoajoklpbfehiaaW.PrintWords
open Go.RowKit
def Foot (P : World → Prop) (W : World) (ok : Nat → Prop) : Prop := ∀ W' : World, (∀ k, ok k → k < W.heap.size → W'.heap[k]? = W.heap[k]?) → P W'
theorem heap_lt {W W1 : World} {k : Nat} (h : W1.heap[k]? = W.heap[k]?) (hlt : k < W.heap.size) : k < W1.heap.size := by
 rw [Array.getElem?_eq_getElem hlt] at h
 exact (Array.getElem?_eq_some_iff.1 h).1
namespace Foot
variable {P Q : World → Prop} {W W1 : World} {ok ok' : Nat → Prop}
theorem now (h : Foot P W ok) : P W := h W (fun _ _ _ => rfl)
theorem mono (h : Foot P W ok) (hok : ∀ k, ok k → ok' k) : Foot P W ok' := fun W' hW => h W' (fun k hk hlt => hW k (hok k hk) hlt)
theorem bound (h : Foot P W ok) : Foot P W (fun k => ok k ∧ k < W.heap.size) := fun W' hW => h W' (fun k hk hlt => hW k ⟨hk, hlt⟩ hlt)
theorem step (h : Foot P W ok) (hm : ∀ k, ok k → k < W.heap.size → W1.heap[k]? = W.heap[k]?) : Foot P W1 ok := fun W' hW => h W' (fun k hk hlt => (hW k hk (heap_lt (hm k hk hlt) hlt)).trans (hm k hk hlt))
theorem imp (h : Foot P W ok) (hi : ∀ W', P W' → Q W') : Foot Q W ok := fun W' hW => hi W' (h W' hW)
theorem old (h : Foot P W ok) (hb : Below W.heap.size W W1) : Foot P W1 (fun k => ok k ∧ k < W.heap.size) := (h.bound).step (fun k _ hlt => hb.block k hlt)
end Foot
namespace Kd
def F {α : Type} (d : Kd α) (W : World) (ok : Nat → Prop) (A : Option Addr) (n : Nat) (xs : List α) : Prop := Foot (fun W => d.C W A n xs) W ok
def FK {α : Type} (d : Kd α) (W : World) (ok : Nat → Prop) (x : α) (c : List Value) : Prop := Foot (fun W => d.K W x c) W ok
section
variable {α β : Type} {d : Kd α} {e base n n' cc g N : Nat} {ok ok' okp S : Nat → Prop} {w w0 w1 W W1 : World} {A A' : Option Addr} {u v v1 : Value} {xs : List α} {xs' : List β} {d' : Kd β} {x : α} {c : List Value}
theorem F_nil (d : Kd α) (W : World) (ok : Nat → Prop) : F d W ok none ([] : List α).length [] := fun W' _ => C_nil d W'
theorem FK_of_M (h : d.M W base ok x c) : FK d W ok x c := fun _ hW => d.K_of_M (M_step h hW)
end
end Kd
end Go.Proofs.YtoajoklpbfehiaaW.PrintWords
namespace Go.Proofs.YtoajoklpbfehiaaW.PrintWords
open Go.RowKit
namespace Kd
def chunks (sz : Nat) (n : Nat) (inner : List Value) : List (List Value) := (List.range n).map fun j => (inner.drop (j * sz)).take sz
theorem chunks_length (sz n : Nat) (inner : List Value) : (chunks sz n inner).length = n := by simp [chunks]
theorem chunks_at {sz n : Nat} {inner : List Value} {j : Nat} (hj : j < n) : (chunks sz n inner)[j]? = some ((inner.drop (j * sz)).take sz) := by simp [chunks, hj]
theorem chunks_get {sz n : Nat} {inner : List Value} {j : Nat} {c : List Value} (h : (chunks sz n inner)[j]? = some c) : c = (inner.drop (j * sz)).take sz := by
 have hj : j < n := by have := (List.getElem?_eq_some_iff.1 h).1; rwa [chunks_length] at this
 rw [chunks_at hj] at h
 injection h with h
 exact h.symm
theorem reps_raw {α : Type} {Rr : α → List Value → Prop} {sz : Nat} {xs : List α} {inner : List Value} (h : Reps Rr sz xs inner) (hR : ∀ x c, Rr x c → c.length = sz ∧ ∀ u ∈ c, u.oneCell' = true) : Reps (fun x cs => cs = x ∧ cs.length = sz ∧ ∀ u ∈ cs, u.oneCell' = true) sz (chunks sz xs.length inner) inner := by
 refine ⟨by rw [chunks_length]; exact h.1, fun j p hj => ?_⟩
 have hjl : j < xs.length := by have := (List.getElem?_eq_some_iff.1 hj).1; rwa [chunks_length] at this
 have hp := chunks_get hj
 exact ⟨hp.symm, hR _ _ (h.2 j _ (List.getElem?_eq_getElem hjl))⟩
section
variable {α : Type} {d : Kd α} {e base n cc g : Nat} {ok ok' okp S : Nat → Prop} {w w1 W W1 : World} {A : Option Addr} {u v v1 : Value} {xs : List α} {x : α} {c : List Value}
def N {α : Type} (d : Kd α) (e : Nat) (w : World) (base : Nat) (ok : Nat → Prop) (v : Value) (xs : List α) : Prop :=
 (∀ k, v.ownBlock = some k → ok k) ∧ ∃ rows : List (List Value), rows.length = xs.length ∧ (raw d.sz).R e w base (fun k => some k = v.ownBlock) v rows ∧ ∀ (j : Nat) (x : α) (c : List Value), xs[j]? = some x → rows[j]? = some c → FK d w (fun k => ok k ∧ some k ≠ v.ownBlock) x c
theorem R_N (h : d.R e w base ok v xs) : N d e w base ok v xs := by
 obtain ⟨h0, inner, ho, hr⟩ := h
 refine ⟨h0, chunks d.sz xs.length inner, chunks_length _ _ _, ⟨fun k hk => hk.symm, inner, by rw [chunks_length]; exact ho, reps_raw hr (fun x c hp => ⟨d.K_len (d.K_of_M hp), d.K_one (d.K_of_M hp)⟩)⟩, fun j x c hx hc => ?_⟩
 rw [chunks_get hc]
 exact FK_of_M (hr.2 j x hx)
theorem N_nil (d : Kd α) (e : Nat) (w : World) (base : Nat) (ok : Nat → Prop) : N d e w base ok (.slice none 0 0) [] := R_N (R_nil _ _ _ _ _)
end
end Kd
end Go.Proofs.YtoajoklpbfehiaaW.PrintWords
namespace Go.Proofs.YtoajoklpbfehiaaW.PrintWords
open Go.RowKit
namespace Kd
section
variable {α : Type} {d : Kd α} {W : World} {g n : Nat} {S ok : Nat → Prop} {A : Option Addr} {ad : Addr} {xs : List α}
end
end Kd
end Go.Proofs.YtoajoklpbfehiaaW.PrintWords
namespace Go.Proofs.YtoajoklpbfehiaaW.PrintWords
open Go.RowKit
section
variable {w w' u : World} {m B g : Nat} {o : Obj} {row : Option Nat} {S : Nat → Prop} {a : Addr} {v : Value}
end
namespace Kd
section
variable {α : Type} {d : Kd α} {e base n m : Nat} {ok : Nat → Prop} {w w' : World} {v : Value} {A : Option Addr} {xs : List α}
end
end Kd
end Go.Proofs.YtoajoklpbfehiaaW.PrintWords
namespace Go.Proofs.YtoajoklpbfehiaaW.PrintWords
open Go.RowKit
section
variable {P : Program} {d : Nat} {xs ys : Array Value} {f : Field} {fs : List Field} {a b : Value} {r s : Bool} {w : World}
end
end Go.Proofs.YtoajoklpbfehiaaW.PrintWords
namespace Go.Proofs.YtoajoklpbfehiaaW.PrintWords
theorem Reps.one {α : Type} {R : α → List Value → Prop} {ps : List α} {cs : List Value} {p : α} {v : Value} (hp : R p [v]) (h : Reps R 1 ps cs) : Reps R 1 (p :: ps) (v :: cs) := by
 refine ⟨by simp [h.1], fun j q hq => ?_⟩
 cases j with
 | zero =>
   simp only [List.getElem?_cons_zero, Option.some.injEq] at hq
   subst hq
   simpa using hp
 | succ j =>
   simp only [List.getElem?_cons_succ] at hq
   have h1 := h.2 j q hq
   simpa [Nat.mul_one] using h1
theorem Reps.front {α : Type} {R : α → List Value → Prop} {size : Nat} {ps : List α} {cs c all : List Value} {p : α} (hp : R p c) (hc : c.length = size) (h : Reps R size ps cs) (ha : c ++ cs = all) : Reps R size (p :: ps) all := by
 subst ha
 refine ⟨by rw [List.length_append, hc, h.1, List.length_cons, Nat.succ_mul, Nat.add_comm], fun j q hq => ?_⟩
 cases j with
 | zero =>
   simp only [List.getElem?_cons_zero, Option.some.injEq] at hq
   subst hq
   rw [Nat.zero_mul, List.drop_zero, List.take_append_of_le_length (by omega), List.take_of_length_le (by omega)]
   exact hp
 | succ j =>
   simp only [List.getElem?_cons_succ] at hq
   have h1 := h.2 j q hq
   rw [Nat.succ_mul, List.drop_append, List.drop_of_length_le (by rw [hc]; exact Nat.le_add_left _ _), List.nil_append, hc, Nat.add_sub_cancel]
   exact h1
theorem Reps.c2 {α : Type} {R : α → List Value → Prop} {ps : List α} {cs : List Value} {p : α} {va vb : Value} (hp : R p [va, vb]) (h : Reps R 2 ps cs) : Reps R 2 (p :: ps) (va :: vb :: cs) := Reps.front hp rfl h rfl
theorem Reps.c3 {α : Type} {R : α → List Value → Prop} {ps : List α} {cs : List Value} {p : α} {va vb vc : Value} (hp : R p [va, vb, vc]) (h : Reps R 3 ps cs) : Reps R 3 (p :: ps) (va :: vb :: vc :: cs) := Reps.front hp rfl h rfl
theorem Reps.c4 {α : Type} {R : α → List Value → Prop} {ps : List α} {cs : List Value} {p : α} {va vb vc vd : Value} (hp : R p [va, vb, vc, vd]) (h : Reps R 4 ps cs) : Reps R 4 (p :: ps) (va :: vb :: vc :: vd :: cs) := Reps.front hp rfl h rfl
theorem Reps.c5 {α : Type} {R : α → List Value → Prop} {ps : List α} {cs : List Value} {p : α} {va vb vc vd ve : Value} (hp : R p [va, vb, vc, vd, ve]) (h : Reps R 5 ps cs) : Reps R 5 (p :: ps) (va :: vb :: vc :: vd :: ve :: cs) := Reps.front hp rfl h rfl
theorem Reps.c6 {α : Type} {R : α → List Value → Prop} {ps : List α} {cs : List Value} {p : α} {va vb vc vd ve vf : Value} (hp : R p [va, vb, vc, vd, ve, vf]) (h : Reps R 6 ps cs) : Reps R 6 (p :: ps) (va :: vb :: vc :: vd :: ve :: vf :: cs) := Reps.front hp rfl h rfl
theorem Reps.c7 {α : Type} {R : α → List Value → Prop} {ps : List α} {cs : List Value} {p : α} {va vb vc vd ve vf vg : Value} (hp : R p [va, vb, vc, vd, ve, vf, vg]) (h : Reps R 7 ps cs) : Reps R 7 (p :: ps) (va :: vb :: vc :: vd :: ve :: vf :: vg :: cs) := Reps.front hp rfl h rfl
theorem Reps.c8 {α : Type} {R : α → List Value → Prop} {ps : List α} {cs : List Value} {p : α} {va vb vc vd ve vf vg vh : Value} (hp : R p [va, vb, vc, vd, ve, vf, vg, vh]) (h : Reps R 8 ps cs) : Reps R 8 (p :: ps) (va :: vb :: vc :: vd :: ve :: vf :: vg :: vh :: cs) := Reps.front hp rfl h rfl
theorem Reps.c9 {α : Type} {R : α → List Value → Prop} {ps : List α} {cs : List Value} {p : α} {va vb vc vd ve vf vg vh vi : Value} (hp : R p [va, vb, vc, vd, ve, vf, vg, vh, vi]) (h : Reps R 9 ps cs) : Reps R 9 (p :: ps) (va :: vb :: vc :: vd :: ve :: vf :: vg :: vh :: vi :: cs) := Reps.front hp rfl h rfl
end Go.Proofs.YtoajoklpbfehiaaW.PrintWords
namespace Go.Proofs.YtoajoklpbfehiaaW.PrintLast
def up (b : Nat → Bool) (i : Nat) : Nat → Bool := fun j => if j = i then true else b j
def lof (n : Nat) (O : List Nat) (b : Nat → Bool) : List Bool := (List.range n).map fun j => if O.contains j then b j else true
def putSel (a : Act) (b : Nat → Bool) : List (Nat × Tmp × Value) → Act
 | [] => a
 | e :: r => putSel (if b e.1 = true then a.put (some e.2.1) e.2.2 else a) b r
section
variable {P : Program} {ops : Array Oper} {Q : Exit → Act → World → Prop} {md : Region.Mode} {T : Bool × List (List Nat × List Nat)} {B : List Nat} {O : List Nat} {b : Nat → Bool} {i j n : Nat}
def StepAt (P : Program) (ops : Array Oper) (Q : Exit → Act → World → Prop) (B : List Nat) (O : List Nat) (I : (Nat → Bool) → Act → World → Prop) (i : Nat) : Prop :=
 ∀ b a w, I b a w → b i = false → (∀ j, (O.contains j && (B.getD i 0).testBit j) = true → b j = true) → (∀ d, (O.contains d && (B.getD d 0).testBit i) = true → b d = false) →
   ∃ oi, ops[i]? = some oi ∧ ∀ K : Act → World → Prop, Shut (∀ a' w', I (up b i) a' w' → K a' w') → if Region.wanted oi (yielded ops a.tmps) = true then Oper.wp P oi a w K Q else K (a.put oi.dst undef) w
def baseOk (T : List (List Nat × List Nat)) (O : List Nat) : Bool :=
 (List.range T.length).all (fun d => match T[d]? with
   | some r => (O.contains d || r.1.all fun n => !O.contains n) && r.1.all fun n => decide (n < d)
   | none => false) && O.all (fun i => decide (i < T.length)) && decide O.Nodup
def Closed (T : List (List Nat × List Nat)) (O : List Nat) (b : Nat → Bool) : Prop := ∀ d r, T[d]? = some r → O.contains d = true → b d = true → ∀ n ∈ r.1, O.contains n = true → b n = true
end
end Go.Proofs.YtoajoklpbfehiaaW.PrintLast
namespace Go.Proofs.YtoajoklpbfehiaaW.PrintWords
open Go.RowKit
end Go.Proofs.YtoajoklpbfehiaaW.PrintWords
namespace Go.Proofs.YtoajoklpbfehiaaW.PrintLast
section
variable {ops : Array Oper} {a : Act} {o og : Oper} {g : Nat} {t : Tmp} {u : Bool}
end
end Go.Proofs.YtoajoklpbfehiaaW.PrintLast
namespace Go.Proofs.YtoajoklpbfehiaaW.PrintWords
open Go.RowKit
section
variable {P : Program} {ops : Array Oper} {rest : List Oper} {o : Oper} {a : Act} {Q : Exit → Act → World → Prop} {W : World}
end
end Go.Proofs.YtoajoklpbfehiaaW.PrintWords
namespace Go.Proofs.YtoajoklpbfehiaaW.PrintWords
open Go.RowKit
namespace Kd
section
variable {α : Type} {d : Kd α} {e base n cap g : Nat} {ok ok' okp : Nat → Prop} {w w1 W : World} {v v1 : Value} {xs ys : List α}
end
section
variable {P : Program} {ops : Array Oper} {rest : List Oper} {o : Oper} {a : Act} {Q : Exit → Act → World → Prop} {Kc : Act → World → Prop} {α : Type}
end
end Kd
end Go.Proofs.YtoajoklpbfehiaaW.PrintWords
namespace Go.Proofs.YtoajoklpbfehiaaW.PrintMore
open Go.RowKit Go.Proofs.YtoajoklpbfehiaaW.PrintWords
namespace Kd
open Go.Proofs.YtoajoklpbfehiaaW.PrintWords.Kd
end Kd
namespace Kd
open Go.Proofs.YtoajoklpbfehiaaW.PrintWords.Kd
section
variable {α : Type} {d : Kd α} {e base g N : Nat} {ok : Nat → Prop} {W w1 : World} {u v : Value} {xs : List α}
end
end Kd
theorem max2_int (k k' : IntKind) (x y : Int) : Builtin.max2 (.int k x) (.int k' y) = pure (.int k (if x < y then y else x)) := by simp only [Builtin.max2, gt_iff_lt]
theorem min2_int (k k' : IntKind) (x y : Int) : Builtin.min2 (.int k x) (.int k' y) = pure (.int k (if y < x then y else x)) := by simp only [Builtin.min2]
theorem max_two (ats : Array TypeId) (ty : TypeId) (a b : Value) : Builtin.max_ ats ty #[a, b] = (Builtin.max2 a b >>= fun s => pure s) := by simp only [Builtin.max_, List.foldlM_cons, List.foldlM_nil]
theorem min_two (ats : Array TypeId) (ty : TypeId) (a b : Value) : Builtin.min_ ats ty #[a, b] = (Builtin.min2 a b >>= fun s => pure s) := by simp only [Builtin.min_, List.foldlM_cons, List.foldlM_nil]
theorem max_three (ats : Array TypeId) (ty : TypeId) (a b c : Value) : Builtin.max_ ats ty #[a, b, c] = (Builtin.max2 a b >>= fun s => Builtin.max2 s c >>= fun s => pure s) := by simp only [Builtin.max_, List.foldlM_cons, List.foldlM_nil]
theorem min_three (ats : Array TypeId) (ty : TypeId) (a b c : Value) : Builtin.min_ ats ty #[a, b, c] = (Builtin.min2 a b >>= fun s => Builtin.min2 s c >>= fun s => pure s) := by simp only [Builtin.min_, List.foldlM_cons, List.foldlM_nil]
theorem max_four (ats : Array TypeId) (ty : TypeId) (a b c d : Value) : Builtin.max_ ats ty #[a, b, c, d] = (Builtin.max2 a b >>= fun s => Builtin.max2 s c >>= fun s => Builtin.max2 s d >>= fun s => pure s) := by simp only [Builtin.max_, List.foldlM_cons, List.foldlM_nil]
theorem min_four (ats : Array TypeId) (ty : TypeId) (a b c d : Value) : Builtin.min_ ats ty #[a, b, c, d] = (Builtin.min2 a b >>= fun s => Builtin.min2 s c >>= fun s => Builtin.min2 s d >>= fun s => pure s) := by simp only [Builtin.min_, List.foldlM_cons, List.foldlM_nil]
end Go.Proofs.YtoajoklpbfehiaaW.PrintMore
namespace Go.Proofs.YtoajoklpbfehiaaW.PrintWords
open Go.RowKit
section
variable {P : Program} {ops : Array Oper} {rest : List Oper} {o : Oper} {a : Act} {Q : Exit → Act → World → Prop} {W : World}
theorem gate_builtin {b : Builtin} {xs : Array Operand} {ts : Array TypeId} (_ho : o.op = .call { callee := .builtin b, args := xs, argTypes := ts }) (h : wpList P ops Q (o :: rest) a W) : wpList P ops Q (o :: rest) a W := h
end
def mx (a b : Int) : Int := if a < b then b else a
def mn (a b : Int) : Int := if b < a then b else a
def shl (k : IntKind) (x y : Int) : Int := k.wrap (x * 2 ^ min y.toNat k.bits)
def shr (k : IntKind) (x y : Int) : Int := x / 2 ^ min y.toNat k.bits
namespace Kd
section
variable {α : Type} {d : Kd α} {e base : Nat} {ok : Nat → Prop} {W w1 : World} {v : Value} {xs : List α}
end
section
variable {α : Type} {d : Kd α} {e base g n cap : Nat} {ok oki okp : Nat → Prop} {W : World} {xs : List α} {i : Int} {c : List Value}
end
section
variable {α : Type} {d : Kd α} {e base b b' g N : Nat} {ok ok1 : Nat → Prop} {W W2 w1 : World} {u v : Value} {xs ys : List α} {S : Nat → Prop}
end
end Kd
end Go.Proofs.YtoajoklpbfehiaaW.PrintWords
namespace Go.Proofs.YtoajoklpbfehiaaW.PrintWords
open Go.RowKit
namespace Kd
def V {α : Type} (d : Kd α) (_e : Nat) (W : World) (_base : Nat) (ok : Nat → Prop) (v : Value) (xs : List α) : Prop := ∃ A c, v = .slice A xs.length c ∧ xs.length ≤ c ∧ F d W ok A xs.length xs
section
variable {α β : Type} {d : Kd α} {e base base' n m c g N' lo hi : Nat} {ok ok' S : Nat → Prop} {w W w1 : World} {A : Option Addr} {ad : Addr} {u v v1 : Value} {xs : List α}
theorem V_nil (d : Kd α) (e : Nat) (W : World) (base : Nat) (ok : Nat → Prop) : V d e W base ok (.slice none 0 0) [] := ⟨none, 0, rfl, Nat.le_refl _, F_nil d W ok⟩
end
end Kd
end Go.Proofs.YtoajoklpbfehiaaW.PrintWords

namespace Go.Proofs.Ytoajoklpbfehiaa.Sets
set_option linter.unusedVariables false
def gt (l : List Nat) (i : Nat) : Nat := l.getD i 0
structure Rep (P m : List Nat) : Prop where
 len : P.length = m.length
 le : ∀ i, i < m.length → (gt P i) ≤ i
 same : ∀ i, i < m.length → (gt m ((gt P i))) = (gt m i)
 fix : ∀ i, i < m.length → ((gt P i) = i ↔ (gt m i) = i)
theorem getD_set (l : List Nat) (i j x : Nat) : (gt (l.set i x) j) = if i = j ∧ j < l.length then x else (gt l j) := by
 unfold gt
 simp only [List.getD_eq_getElem?_getD, List.getElem?_set]
 by_cases h : i = j
 · subst h
   by_cases h2 : i < l.length
   · simp [h2]
   · simp [h2]
 · simp [h]
theorem Rep.least {P m : List Nat} (h : Rep P m) : ∀ (k i : Nat), i ≤ k → i < m.length → (gt m i) ≤ i ∧ (gt m ((gt m i))) = (gt m i) := by
 intro k
 induction k with
 | zero =>
   intro i hk hi
   obtain rfl : i = 0 := by omega
   have e : (gt P 0) = 0 := by have := h.le 0 hi; omega
   have e2 := (h.fix 0 hi).1 e
   rw [e2]; exact ⟨Nat.le_refl _, e2⟩
 | succ k ih =>
   intro i hk hi
   by_cases e : (gt P i) = i
   · have e2 := (h.fix i hi).1 e
     rw [e2]; exact ⟨Nat.le_refl _, e2⟩
   · have hl := h.le i hi
     have := ih ((gt P i)) (by omega) (by omega)
     rw [h.same i hi] at this
     exact ⟨by omega, this.2⟩
theorem Rep.ml {P m : List Nat} (h : Rep P m) {i : Nat} (hi : i < m.length) : (gt m i) ≤ i := (h.least i i (Nat.le_refl _) hi).1
theorem Rep.mm {P m : List Nat} (h : Rep P m) {i : Nat} (hi : i < m.length) : (gt m ((gt m i))) = (gt m i) := (h.least i i (Nat.le_refl _) hi).2
theorem Rep.halve {P m : List Nat} (h : Rep P m) {a : Nat} (ha : a < m.length) (hne : (gt P a) ≠ a) : Rep (P.set a ((gt P ((gt P a))))) m := by
 have hpa := h.le a ha
 have hp : (gt P a) < m.length := by omega
 have hpp := h.le _ hp
 refine ⟨by simp [h.len], ?_, ?_, ?_⟩
 · intro i hi
   rw [getD_set]; split
   · omega
   · exact h.le i hi
 · intro i hi
   rw [getD_set]; split
   · rename_i c; obtain ⟨rfl, _⟩ := c; rw [h.same _ hp, h.same _ ha]
   · exact h.same i hi
 · intro i hi
   rw [getD_set]; split
   · rename_i c; obtain ⟨rfl, _⟩ := c
     constructor
     · intro e; omega
     · intro e; exact absurd ((h.fix _ ha).2 e) hne
   · exact h.fix i hi
theorem getD_map (f : Nat → Nat) (l : List Nat) {i : Nat} (h : i < l.length) : (gt (l.map f) i) = f ((gt l i)) := by
 simp [gt, List.getD_eq_getElem?_getD, h]
def glue (lo hi : Nat) (m : List Nat) : List Nat := m.map fun v => if v = hi then lo else v
theorem glue_length (lo hi : Nat) (m : List Nat) : (glue lo hi m).length = m.length := by simp [glue]
theorem glue_get (lo hi : Nat) (m : List Nat) {i : Nat} (h : i < m.length) : (gt (glue lo hi m) i) = if (gt m i) = hi then lo else (gt m i) := getD_map _ m h
theorem Rep.glue {P m : List Nat} (h : Rep P m) {lo hi : Nat} (hh : hi < m.length) (hl : lo < hi) (hlo : (gt m lo) = lo) (hhi : (gt m hi) = hi) : Rep (P.set hi lo) (Sets.glue lo hi m) := by
 have hPl := h.len
 refine ⟨by simp [glue_length, h.len], ?_, ?_, ?_⟩
 · intro i hi'
   rw [glue_length] at hi'
   rw [getD_set]; split
   · omega
   · exact h.le i hi'
 · intro i hi'
   rw [glue_length] at hi'
   have hp := h.le i hi'
   have hsame := h.same i hi'
   rw [getD_set]; split
   · rename_i c; obtain ⟨rfl, _⟩ := c
     rw [glue_get _ _ _ (by omega), glue_get _ _ _ (by omega), hlo, hhi]; simp
   · rw [glue_get _ _ _ (by omega), glue_get _ _ _ hi', hsame]
 · intro i hi'
   rw [glue_length] at hi'
   have hfix := h.fix i hi'
   rw [getD_set, glue_get _ _ _ hi']; split
   · rename_i c; obtain ⟨rfl, _⟩ := c
     rw [hhi]; simp
   · rename_i c
     have hne : i ≠ hi := by intro e; exact c ⟨e.symm, by omega⟩
     rw [hfix]
     split
     · rename_i e
       constructor
       · intro e2; omega
       · intro e2; rw [← e2, hlo] at e; omega
     · exact Iff.rfl
theorem range_get {n i : Nat} (hi : i < n) : (gt (List.range n) i) = i := by simp [gt, List.getD_eq_getElem?_getD, hi]
theorem Rep.range (n : Nat) : Rep (List.range n) (List.range n) := by
 refine ⟨rfl, ?_, ?_, ?_⟩ <;> intro i hi <;> simp only [List.length_range] at hi
 · rw [range_get hi]; exact Nat.le_refl _
 · rw [range_get hi]; exact range_get hi
 · exact Iff.rfl
def many (m : List Nat) (r : Nat) : Nat := m.countP fun v => v == r
def sets (m : List Nat) : Nat := (List.range m.length).countP fun i => (gt m i) == i
theorem many_glue_lo (lo hi : Nat) (m : List Nat) (h : lo ≠ hi) : many (glue lo hi m) lo = many m lo + many m hi := by
 induction m with
 | nil => rfl
 | cons a m ih =>
   simp only [many, glue, List.map_cons, List.countP_cons] at ih ⊢
   rw [ih]
   by_cases e : a = hi
   · subst e; simp [Ne.symm h]; omega
   · simp only [e, if_false]
     by_cases e2 : a = lo
     · subst e2; simp [h]; omega
     · simp [e2, e]
theorem many_glue_other (lo hi r : Nat) (m : List Nat) (h1 : r ≠ lo) (h2 : r ≠ hi) : many (glue lo hi m) r = many m r := by
 induction m with
 | nil => rfl
 | cons a m ih =>
   simp only [many, glue, List.map_cons, List.countP_cons] at ih ⊢
   rw [ih]
   by_cases e : a = hi
   · subst e; simp [Ne.symm h1, Ne.symm h2]
   · simp [e]
theorem countP_one {f g : Nat → Bool} {b : Nat} : ∀ (l : List Nat), l.Nodup → b ∈ l → (∀ i ∈ l, i ≠ b → f i = g i) → f b = false → g b = true → l.countP f + 1 = l.countP g := by
 intro l
 induction l with
 | nil => intro _ h; simp at h
 | cons a l ih =>
   intro hnd hb hfg h1 h2
   rw [List.nodup_cons] at hnd
   simp only [List.countP_cons]
   by_cases e : a = b
   · subst e
     have : l.countP f = l.countP g := List.countP_congr fun i hi => by rw [hfg i (List.mem_cons_of_mem _ hi) (fun e => hnd.1 (e ▸ hi))]
     simp [this, h1, h2]
   · have hb' : b ∈ l := by simpa [Ne.symm e] using hb
     have := ih hnd.2 hb' (fun i hi => hfg i (List.mem_cons_of_mem _ hi)) h1 h2
     rw [hfg a (List.mem_cons_self ..) e]; omega
theorem sets_glue' {m : List Nat} {lo hi : Nat} (hh : hi < m.length) (hl : lo < hi) (hlo : (gt m lo) = lo) (hhi : (gt m hi) = hi) : sets (Sets.glue lo hi m) + 1 = sets m := by
 unfold sets
 rw [glue_length]
 refine countP_one (b := hi) _ List.nodup_range (by simpa using hh) ?_ ?_ ?_
 · intro i hi' hne
   have hi' : i < m.length := by simpa using hi'
   rw [glue_get _ _ _ hi', Bool.eq_iff_iff, beq_iff_eq, beq_iff_eq]
   split
   · rename_i e
     constructor
     · intro e2; rw [← e2, hlo] at e; omega
     · intro e2; omega
   · exact Iff.rfl
 · rw [glue_get _ _ _ hh, hhi]; simp; omega
 · simpa using hhi
theorem sets_glue {P m : List Nat} (h : Rep P m) {lo hi : Nat} (hh : hi < m.length) (hl : lo < hi) (hlo : gt m lo = lo) (hhi : gt m hi = hi) : sets (Sets.glue lo hi m) + 1 = sets m := sets_glue' hh hl hlo hhi
theorem many_le (m : List Nat) (r : Nat) : many m r ≤ m.length := List.countP_le_length
theorem sets_le (m : List Nat) : sets m ≤ m.length := by have := List.countP_le_length (l := List.range m.length) (p := fun i => (gt m i) == i); simpa [sets] using this
theorem many_pair (m : List Nat) {r s : Nat} (h : r ≠ s) : many m r + many m s ≤ m.length := by rw [← many_glue_lo r s m h]; have := many_le (glue r s m) r; rwa [glue_length] at this
structure Sized (S m : List Nat) : Prop where
 len : S.length = m.length
 size : ∀ r, r < m.length → (gt m r) = r → (gt S r) = many m r
theorem Sized.glue {S m : List Nat} (h : Sized S m) {lo hi : Nat} (hh : hi < m.length) (hl : lo < hi) (hlo : (gt m lo) = lo) (hhi : (gt m hi) = hi) : Sized (S.set lo ((gt S lo) + (gt S hi))) (Sets.glue lo hi m) := by
 have hSl := h.len
 refine ⟨by simp [glue_length, h.len], ?_⟩
 intro r hr hrr
 rw [glue_length] at hr
 rw [glue_get _ _ _ hr] at hrr
 rw [getD_set]; split
 · rename_i c; obtain ⟨rfl, _⟩ := c
   rw [h.size _ hr hlo, h.size _ hh hhi, many_glue_lo _ _ _ (by omega)]
 · rename_i c
   have hne : r ≠ lo := by intro e; exact c ⟨e.symm, by omega⟩
   have hne2 : r ≠ hi := by
     intro e; subst e; rw [hhi] at hrr; simp at hrr; omega
   rw [many_glue_other _ _ _ _ hne hne2]
   split at hrr
   · omega
   · exact h.size r hr hrr
theorem many_range {n r : Nat} (h : r < n) : many (List.range n) r = 1 := by
 unfold many
 rw [show (fun v => v == r) = (· == r) from rfl]
 have : List.count r (List.range n) = 1 := List.nodup_range.count (a := r) ▸ by simp [h]
 simpa [List.count] using this
theorem Sized.ones (n : Nat) : Sized (List.replicate n 1) (List.range n) := by
 refine ⟨by simp, ?_⟩
 intro r hr _
 have hr' : r < n := by simpa using hr
 rw [many_range hr']; simp [gt, List.getD_eq_getElem?_getD, hr']
theorem sets_range (n : Nat) : sets (List.range n) = n := by
 unfold sets
 have : (List.range (List.range n).length).countP (fun i => (gt (List.range n) i) == i) = (List.range (List.range n).length).length := by
   rw [List.countP_eq_length]; intro i hi; rw [List.length_range, List.mem_range] at hi; rw [range_get hi]; simp
 rw [this]; simp
end Go.Proofs.Ytoajoklpbfehiaa.Sets
namespace Go.Proofs.Ytoajoklpbfehiaa.Sets
open Go.RowKit Go.Proofs.YtoajoklpbfehiaaW.PrintWords Go.Proofs.YtoajoklpbfehiaaW.PrintLast Go.Proofs.YtoajoklpbfehiaaW.PrintMore
set_option linter.unusedVariables false
set_option linter.unusedSimpArgs false
structure Frame (S : Nat → Prop) (w w' : World) : Prop where
 os : w'.os = w.os
 tape : w'.tape = w.tape
 output : w'.output = w.output
 size : w.heap.size ≤ w'.heap.size
 block : ∀ k, k < w.heap.size → ¬ S k → w'.heap[k]? = w.heap[k]?
theorem Frame.refl (S : Nat → Prop) (w : World) : Frame S w w := ⟨rfl, rfl, rfl, Nat.le_refl _, fun _ _ _ => rfl⟩
theorem Frame.trans {S : Nat → Prop} {a b c : World} (h : Frame S a b) (k : Frame S b c) : Frame S a c :=
 ⟨k.os.trans h.os, k.tape.trans h.tape, k.output.trans h.output, Nat.le_trans h.size k.size, fun i hi hs => (k.block i (Nat.lt_of_lt_of_le hi h.size) hs).trans (h.block i hi hs)⟩
theorem Frame.mono {S T : Nat → Prop} {a b : World} (h : Frame S a b) (hst : ∀ k, S k → T k) : Frame T a b := ⟨h.os, h.tape, h.output, h.size, fun i hi hs => h.block i hi (fun e => hs (hst i e))⟩
theorem Frame.drew {S : Nat → Prop} {a b : World} (h : Frame S a b) : Frame S a b.drew := ⟨h.os, h.tape, h.output, h.size, h.block⟩
theorem Frame.drewN {S : Nat → Prop} {a b : World} (h : Frame S a b) (n : Nat) : Frame S a (b.drewN n) := ⟨h.os, h.tape, h.output, h.size, h.block⟩
theorem Frame.setCell {S : Nat → Prop} {a b : World} (h : Frame S a b) {p : Addr} (hp : S p.block) (u : Value) : Frame S a (b.setCell p u) :=
 h.trans ⟨rfl, rfl, rfl, by simp [World.setCell], fun k _ hs => Below.heap_setCell _ _ _ _ (fun e => hs (e ▸ hp))⟩
theorem Frame.alloc {S : Nat → Prop} {a b : World} (h : Frame S a b) (o : Obj) : Frame S a (b.alloc o) :=
 h.trans ⟨rfl, rfl, rfl, by simp, fun k hk _ => Below.heap_alloc _ _ _ hk⟩
theorem Frame.below {S : Nat → Prop} {a b : World} (h : Frame S a b) {B : Nat} (hB : B ≤ a.heap.size) (hS : ∀ k, S k → B ≤ k) : Below B a b :=
 ⟨h.os, h.tape, h.output, h.size, fun k hk => h.block k (by omega) (fun e => by have := hS k e; omega)⟩
theorem Frame.blk {S : Nat → Prop} {a b : World} (h : Frame S a b) {k : Nat} {o : Obj} (hk : a.heap[k]? = some o) (hs : ¬ S k) : b.heap[k]? = some o := by
 rw [h.block k (by rw [Array.getElem?_eq_some_iff] at hk; exact hk.1) hs]; exact hk
def nv (l : List Nat) : Array Value := (l.map fun (x : Nat) => Value.int .i64 (x : Int)).toArray
theorem nv_get (l : List Nat) (i : Nat) (h : i < l.length) : (nv l)[i]? = some (.int .i64 (((gt l i) : Nat) : Int)) := by
 simp [nv, gt, List.getD_eq_getElem?_getD, h]
theorem nv_set (l : List Nat) (i x : Nat) : (nv l).setIfInBounds i (.int .i64 (x : Int)) = nv (l.set i x) := by
 simp [nv, List.map_set]
theorem blk_lt {w : World} {k : Nat} {o : Obj} (hk : w.heap[k]? = some o) : k < w.heap.size := by
 rw [Array.getElem?_eq_some_iff] at hk; exact hk.1
theorem blk_setCell {w : World} {b i : Nat} {c : Array Value} {T : TypeId} {f : Nat × Nat} (h : w.heap[b]? = some (.cells c T f)) (v : Value) : (w.setCell ⟨b, i, none⟩ v).heap[b]? = some (.cells (c.setIfInBounds i v) T f) := by
 simp [World.setCell, Array.getElem?_modify, h]
theorem nv_cell {w : World} {b : Nat} {l : List Nat} {T : TypeId} {f : Nat × Nat} (h : w.heap[b]? = some (.cells (nv l) T f)) {i : Nat} (hi : i < l.length) : w.cell? ⟨b, i, none⟩ = some (.int .i64 (((gt l i) : Nat) : Int)) := by
 simp [World.cell?, h, nv_get l i hi]
theorem blk_free {w : World} {b : Nat} {c : Array Value} {T : TypeId} (h : w.heap[b]? = some (.cells c T (0, 0))) (i : Nat) : w.frozen? ⟨b, i, none⟩ = false := by
 simp [World.frozen?, h]
theorem blk_set_nv {w : World} {b i x : Nat} {l : List Nat} {T : TypeId} {f : Nat × Nat} (h : w.heap[b]? = some (.cells (nv l) T f)) : (w.setCell ⟨b, i, none⟩ (.int .i64 (x : Int))).heap[b]? = some (.cells (nv (l.set i x)) T f) := by
 rw [blk_setCell h, nv_set]
theorem beq_cast (x y : Nat) : (((x : Nat) : Int) == ((y : Nat) : Int)) = (x == y) := by
 rw [Bool.eq_iff_iff]; simp only [beq_iff_eq]; omega
set_option maxHeartbeats 400000 in
set_option maxRecDepth 100000 in
theorem known_calls (A : Option Addr) (n c : Nat) (a : Int) (w : World) :
   Calls Try.prog 43 #[.slice A n c, .int .i64 a] w fun e w' => e = .returned (.bool (decide (0 ≤ a) && decide (a < (n : Int)))) ∧ w = w' := by
 by_cases h : 0 ≤ a
 · have h1 : decide (0 ≤ a) = true := decide_eq_true h
   go_enter Try.func43, Try.ntmps43
   go_wp2
   go_ret
   exact ⟨by simp [h], rfl⟩
 · have h1 : decide (0 ≤ a) = false := decide_eq_false h
   go_enter Try.func43, Try.ntmps43
   go_wp2
   go_ret
   exact ⟨by simp, rfl⟩
def Climbed (b : Nat) (T : TypeId) (m : List Nat) (w w' : World) : Prop := ∃ P, Rep P m ∧ w'.heap[b]? = some (.cells (nv P) T (0, 0)) ∧ Frame (· = b) w w'
set_option maxHeartbeats 400000 in
set_option maxRecDepth 100000 in
theorem root_calls (b n c a : Nat) (T : TypeId) (P m : List Nat) (w : World) (hb : w.heap[b]? = some (.cells (nv P) T (0, 0))) (hr : Rep P m) (ha : a < m.length) (hn : n = m.length) (hm : m.length ≤ 1048576) :
   Calls Try.prog 33 #[.slice (some ⟨b, 0, none⟩) n c, .int .i64 (a : Int)] w fun e w' => e = .returned (.int .i64 (((gt m a) : Nat) : Int)) ∧ Climbed b T m w w' := by
 subst hn
 have HB := Aside0.mk hb
 have HR := Aside0.mk hr
 clear hb hr
 go_enter Try.func33, Try.ntmps33
 go_wp2
 go_loopw [1] (fun v wr => ∃ (i : Nat) (Q : List Nat), v = .int .i64 (i : Int) ∧ i < m.length ∧ Aside0 ((gt m i) = (gt m a)) ∧ Aside0 (Rep Q m) ∧ Aside0 (wr.heap[b]? = some (.cells (nv Q) T (0, 0))) ∧ Aside0 (Frame (· = b) w wr)) (fun v _ => (intOf v).toNat)
 case atStart => exact ⟨a, P, rfl, ha, ⟨rfl⟩, HR, HB, ⟨Frame.refl _ _⟩⟩
 case round =>
   obtain ⟨i, Q, rfl, hi, HE, HQ, HBQ, HF⟩ := hrel
   have hlen : Q.length = m.length := HQ.out.len
   have hc0 := nv_cell HBQ.out (i := i) (by omega)
   by_cases hq : (gt Q i) = i
   · have ht : ((((gt Q i) : Nat) : Int) != (i : Int)) = false := by simp [hq]
     have HQ2 := Aside0.mk hq
     clear hq hlen
     go_wp2
     go_ret
     have e : i = gt m a := by rw [← HE.out]; exact ((HQ.out.fix i hi).1 HQ2.out).symm
     exact ⟨by rw [← e]; rfl, Q, HQ.out, HBQ.out, HF.out⟩
   · have ht : ((((gt Q i) : Nat) : Int) != (i : Int)) = true := by simp; omega
     have hle := HQ.out.le i hi
     have hc1 := nv_cell HBQ.out (i := (gt Q i)) (by omega)
     have hf0 := blk_free HBQ.out i
     have HQ2 := Aside0.mk hq
     have HL := Aside0.mk hlen
     clear hq hlen
     have hi2 : gt Q i < m.length := by omega
     go_wp2
     have hi3 := HQ.out.le (gt Q i) hi2
     go_roundw
     case rel => exact ⟨gt Q (gt Q i), Q.set i (gt Q (gt Q i)), rfl, by omega, ⟨by rw [HQ.out.same _ hi2, HQ.out.same _ hi]; exact HE.out⟩, ⟨HQ.out.halve hi HQ2.out⟩, ⟨blk_set_nv HBQ.out⟩, ⟨HF.out.setCell rfl _⟩⟩
     case measure => have := HQ2.out; simp [intOf]; omega
end Go.Proofs.Ytoajoklpbfehiaa.Sets
namespace Go.Proofs.Ytoajoklpbfehiaa.Sets
open Go.RowKit Go.Proofs.YtoajoklpbfehiaaW.PrintWords Go.Proofs.YtoajoklpbfehiaaW.PrintLast Go.Proofs.YtoajoklpbfehiaaW.PrintMore
attribute [local go_sem] max2_int min2_int max_two min_two
set_option linter.unusedVariables false
set_option linter.unusedSimpArgs false
structure AtPS (w : World) (p bP bS : Nat) (m P S : List Nat) : Prop where
 obj : w.heap[p]? = some (.cells #[.slice (some ⟨bP, 0, none⟩) m.length m.length, .slice (some ⟨bS, 0, none⟩) m.length m.length, .int .i64 ((sets m : Nat) : Int)] 68 (0, 0))
 par : w.heap[bP]? = some (.cells (nv P) 3 (0, 0))
 siz : w.heap[bS]? = some (.cells (nv S) 3 (0, 0))
 ne1 : p ≠ bP
 ne2 : p ≠ bS
 ne3 : bP ≠ bS
 small : m.length ≤ 1048576
 rep : Rep P m
 sized : Sized S m
def At (w : World) (p bP bS : Nat) (m : List Nat) : Prop := ∃ P S, AtPS w p bP bS m P S
def Own (p bP bS : Nat) (k : Nat) : Prop := k = p ∨ k = bP ∨ k = bS
def Now (p bP bS : Nat) (m : List Nat) (w w' : World) : Prop := At w' p bP bS m ∧ Frame (Own p bP bS) w w'
def ok (m : List Nat) (a : Int) : Bool := decide (0 ≤ a) && decide (a < (m.length : Int))
theorem ok_nat {m : List Nat} {a : Int} (h : ok m a = true) : ∃ i : Nat, a = (i : Int) ∧ i < m.length := by
 simp only [ok, Bool.and_eq_true, decide_eq_true_eq] at h
 exact ⟨a.toNat, by omega, by omega⟩
theorem ok_of {m : List Nat} {i : Nat} (h : i < m.length) : ok m (i : Int) = true := by
 simp only [ok, Bool.and_eq_true, decide_eq_true_eq]; omega
theorem AtPS.cell0 {w : World} {p bP bS : Nat} {m P S : List Nat} (h : AtPS w p bP bS m P S) : w.cell? ⟨p, 0, none⟩ = some (.slice (some ⟨bP, 0, none⟩) m.length m.length) := (blk_cell h.obj 0).trans rfl
theorem AtPS.cell1 {w : World} {p bP bS : Nat} {m P S : List Nat} (h : AtPS w p bP bS m P S) : w.cell? ⟨p, 1, none⟩ = some (.slice (some ⟨bS, 0, none⟩) m.length m.length) := (blk_cell h.obj 1).trans rfl
theorem AtPS.cell2 {w : World} {p bP bS : Nat} {m P S : List Nat} (h : AtPS w p bP bS m P S) : w.cell? ⟨p, 2, none⟩ = some (.int .i64 ((sets m : Nat) : Int)) := (blk_cell h.obj 2).trans rfl
theorem AtPS.cellS {w : World} {p bP bS : Nat} {m P S : List Nat} (h : AtPS w p bP bS m P S) {i : Nat} (hi : i < m.length) : w.cell? ⟨bS, gt m i, none⟩ = some (.int .i64 ((many m (gt m i) : Nat) : Int)) := by
 have h1 := h.rep.ml hi
 have h2 := h.sized.len
 rw [nv_cell h.siz (i := gt m i) (by omega), h.sized.size _ (by omega) (h.rep.mm hi)]
theorem AtPS.climbed {w w' : World} {p bP bS : Nat} {m P S : List Nat} (h : AtPS w p bP bS m P S) (k : Climbed bP 3 m w w') : ∃ Q, AtPS w' p bP bS m Q S ∧ Frame (Own p bP bS) w w' := by
 obtain ⟨Q, hr, hb, hf⟩ := k
 exact ⟨Q, ⟨hf.blk h.obj h.ne1, hb, hf.blk h.siz (Ne.symm h.ne3), h.ne1, h.ne2, h.ne3, h.small, hr, h.sized⟩, hf.mono fun _ e => .inr (.inl e)⟩
theorem AtPS.drewN {w : World} {p bP bS : Nat} {m P S : List Nat} (h : AtPS w p bP bS m P S) (n : Nat) : AtPS (w.drewN n) p bP bS m P S := ⟨h.obj, h.par, h.siz, h.ne1, h.ne2, h.ne3, h.small, h.rep, h.sized⟩
theorem AtPS.drew {w : World} {p bP bS : Nat} {m P S : List Nat} (h : AtPS w p bP bS m P S) : AtPS w.drew p bP bS m P S := ⟨h.obj, h.par, h.siz, h.ne1, h.ne2, h.ne3, h.small, h.rep, h.sized⟩
set_option maxHeartbeats 400000 in
set_option maxRecDepth 100000 in
theorem has_calls (p bP bS : Nat) (m P S : List Nat) (a : Int) (w : World) (h : AtPS w p bP bS m P S) :
   Calls Try.prog 32 #[.pointer (some ⟨p, 0, none⟩), .int .i64 a] w fun e w' => e = .returned (.bool (ok m a)) ∧ w = w' := by
 have h0 := h.cell0
 clear h
 go_enter Try.func32, Try.ntmps32
 go_wp2_with (go_at_call 43; refine (known_calls _ _ _ _ _).mono ?_; rintro e w' ⟨rfl, rfl⟩)
 go_ret
 exact ⟨rfl, rfl⟩
theorem has_same {p bP bS : Nat} {m P S : List Nat} {a : Int} {r : Bool} (hr : ok m a = r) (w : World) (h : AtPS w p bP bS m P S) :
   Calls Try.prog 32 #[.pointer (some ⟨p, 0, none⟩), .int .i64 a] w fun e w' => e = .returned (.bool r) ∧ w' = w :=
 (has_calls p bP bS m P S a w h).mono fun _ _ ⟨h1, h2⟩ => ⟨by rw [h1, hr], h2.symm⟩
theorem has_keep {p bP bS : Nat} {m P S : List Nat} {a : Int} {r : Bool} (hr : ok m a = r) (w : World) (h : AtPS w p bP bS m P S) :
   Calls Try.prog 32 #[.pointer (some ⟨p, 0, none⟩), .int .i64 a] w fun e w' => e = .returned (.bool r) ∧ w = w' :=
 (has_calls p bP bS m P S a w h).mono fun _ _ ⟨h1, h2⟩ => ⟨by rw [h1, hr], h2⟩
set_option maxHeartbeats 400000 in
set_option maxRecDepth 100000 in
theorem count_calls (p bP bS : Nat) (m P S : List Nat) (w : World) (h : AtPS w p bP bS m P S) :
   Calls Try.prog 12 #[.pointer (some ⟨p, 0, none⟩)] w fun e w' => e = .returned (.int .i64 ((sets m : Nat) : Int)) ∧ w = w' := by
 have h0 := h.cell2
 clear h
 go_enter Try.func12, Try.ntmps12
 go_wp2
 go_ret
 exact ⟨rfl, rfl⟩
def leastOf (m : List Nat) (a : Int) : Int := if ok m a then ((gt m a.toNat : Nat) : Int) else -1
set_option maxHeartbeats 400000 in
set_option maxRecDepth 100000 in
theorem least_calls (p bP bS : Nat) (m P S : List Nat) (a : Int) (w : World) (h : AtPS w p bP bS m P S) :
   Calls Try.prog 13 #[.pointer (some ⟨p, 0, none⟩), .int .i64 a] w fun e w' => e = .returned (.int .i64 (leastOf m a)) ∧ Now p bP bS m w w' := by
 have H := Aside0.mk h
 have h0 := h.cell0
 clear h
 cases hk : ok m a
 · have e : leastOf m a = -1 := by simp [leastOf, hk]
   have E := Aside0.mk e
   have K := Aside0.mk hk
   clear e hk
   go_enter Try.func13, Try.ntmps13
   go_wp2_with (go_at_call 32; refine (has_calls _ _ _ _ _ _ _ _ H.out).mono ?_; rw [K.out]; rintro e w' ⟨rfl, rfl⟩)
   go_ret
   exact ⟨by rw [E.out]; rfl, ⟨P, S, H.out⟩, Frame.refl _ _⟩
 · obtain ⟨i, rfl, hi⟩ := ok_nat hk
   have e : leastOf m (i : Int) = ((gt m i : Nat) : Int) := by simp [leastOf, hk]
   have E := Aside0.mk e
   have K := Aside0.mk hk
   clear e hk
   go_enter Try.func13, Try.ntmps13
   go_wp2_with (first | (go_at_call 32; refine (has_calls _ _ _ _ _ _ _ _ H.out).mono ?_; rw [K.out]; rintro e w' ⟨rfl, rfl⟩) | (go_at_call 33; refine (root_calls _ _ _ _ _ _ _ _ H.out.par H.out.rep hi rfl H.out.small).mono ?_; rintro e w' ⟨rfl, hc⟩; have HC := Aside0.mk hc; clear hc))
   go_ret
   obtain ⟨Q, h1, h2⟩ := H.out.climbed HC.out
   exact ⟨by rw [E.out]; rfl, ⟨Q, S, h1⟩, h2⟩
end Go.Proofs.Ytoajoklpbfehiaa.Sets
