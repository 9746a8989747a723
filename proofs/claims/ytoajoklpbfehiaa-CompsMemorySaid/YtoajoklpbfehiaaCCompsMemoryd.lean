/- DERIVED. Texts of this seat, one behind the other: lemmas and walks that the statement CompsMemory needs. No condition. -/
import Derived.Test.YtoajoklpbfehiaaCCompsMemoryc
import Derived.Test.YtoajoklpbfehiaaCCompsMemoryb
import Derived.SizedLaws
import Derived.ChangeSlices
import Derived.ProofKit
import Derived.OpenShut
import Derived.ChangeOld
import Derived.Deep.Slices
namespace Go.Proofs.Ytoajoklpbfehiaa.Pile
open Go.RowKit Go.Proofs.YtoajoklpbfehiaaW.PrintWords Go.Proofs.YtoajoklpbfehiaaW.PrintLast Go.Proofs.YtoajoklpbfehiaaW.PrintMore Go.Proofs.Ytoajoklpbfehiaa.Mem
set_option linter.unusedVariables false
set_option linter.unusedSimpArgs false
def PRow (w : World) (ok : Nat → Prop) (v : Value) (n : Nat) (V : Nat → Int) : Prop :=
 (v = .slice none 0 0 ∧ n = 0) ∨ ∃ g cap cur, v = .slice (some ⟨g, 0, none⟩) n cap ∧ ok g ∧ w.heap[g]? = some (.cells cur 3 (0, 0)) ∧ n ≤ cap ∧ cap ≤ maxLen ∧ cur.size = cap ∧ ∀ i, i < n → cur[i]? = some (.int .i64 (V i))
theorem PRow.mono {w : World} {ok ok' : Nat → Prop} {v : Value} {n : Nat} {V : Nat → Int} (h : PRow w ok v n V) (hok : ∀ k, ok k → ok' k) : PRow w ok' v n V := by
 rcases h with h | ⟨g, cap, cur, h1, h2, h3⟩
 · exact .inl h
 · exact .inr ⟨g, cap, cur, h1, hok g h2, h3⟩
theorem PRow.move {w w' : World} {ok : Nat → Prop} {v : Value} {n : Nat} {V : Nat → Int} (h : PRow w ok v n V) (hm : ∀ k, v.ownBlock = some k → k < w.heap.size → w'.heap[k]? = w.heap[k]?) : PRow w' ok v n V := by
 rcases h with h | ⟨g, cap, cur, h1, h2, h3, h4⟩
 · exact .inl h
 · exact .inr ⟨g, cap, cur, h1, h2, by rw [hm g (by rw [h1]; rfl) (lt_of h3)]; exact h3, h4⟩
theorem PRow.lt {w : World} {ok : Nat → Prop} {v : Value} {n : Nat} {V : Nat → Int} (h : PRow w ok v n V) {k : Nat} (hk : v.ownBlock = some k) : ok k ∧ k < w.heap.size := by
 rcases h with ⟨rfl, _⟩ | ⟨g, cap, cur, rfl, h2, h3, _⟩
 · simp [Value.ownBlock] at hk
 · obtain rfl : g = k := by simpa [Value.ownBlock] using hk
   exact ⟨h2, lt_of h3⟩
theorem PRow.slice {w : World} {ok : Nat → Prop} {v : Value} {n : Nat} {V : Nat → Int} (h : PRow w ok v n V) : ∃ A c, v = .slice A n c := by
 rcases h with ⟨rfl, rfl⟩ | ⟨g, cap, cur, rfl, _⟩
 · exact ⟨none, 0, rfl⟩
 · exact ⟨_, _, rfl⟩
theorem PRow.of_R {w : World} {base : Nat} {ok : Nat → Prop} {v : Value} {xs : List Int} (h : Kd.R (Kd.int .i64) 3 w base ok v xs) : PRow w ok v xs.length (gi xs) := by
 have hC := Kd.R_reads h
 obtain ⟨h0, inner, ho, hr⟩ := h
 rcases ho.2 with h1 | ⟨g, cap, cur, rfl, hg, hh, hn, hm, hs, ht⟩
 · exact .inl h1
 · refine .inr ⟨g, cap, cur, rfl, h0 g rfl, hh, hn, hm, hs.trans (Nat.mul_one cap), fun i hi => ?_⟩
   obtain ⟨A, c, e, _, hC⟩ := hC
   injection e with e1 _ _
   subst e1
   obtain ⟨ad, eD, z⟩ := Kd.at_int hC (i : Int) (by omega) (by omega)
   injection eD with eD
   subst eD
   rw [gi_rd, Int.toNat_natCast, add_plain] at z
   unfold World.cell? at z
   simp [hh] at z
   exact z
theorem PRow.at {w : World} {ok : Nat → Prop} {v : Value} {n : Nat} {V : Nat → Int} (h : PRow w ok v n V) {i : Nat} (hi : i < n) : ∃ g c, v = .slice (some ⟨g, 0, none⟩) n c ∧ w.cell? ⟨g, i, none⟩ = some (.int .i64 (V i)) ∧ w.frozen? ⟨g, i, none⟩ = false := by
 rcases h with ⟨_, rfl⟩ | ⟨g, cap, cur, rfl, h2, h3, _, _, _, h4⟩
 · omega
 · exact ⟨g, cap, rfl, heap_cell h3 (h4 i hi), heap_free h3 i⟩
theorem PRow.own {w : World} {ok : Nat → Prop} {v : Value} {n : Nat} {V : Nat → Int} (h : PRow w ok v n V) : w.ownsRow 0 3 1 v n ((List.range n).map fun i => .int .i64 (V i)) := by
 refine ⟨by simp, ?_⟩
 rcases h with h | ⟨g, cap, cur, h1, h2, h3, h4, h5, h6, h7⟩
 · exact .inl h
 · refine .inr ⟨g, cap, cur, h1, Nat.zero_le _, h3, h4, h5, by omega, ?_⟩
   apply List.ext_getElem?
   intro i
   rw [Nat.mul_one, List.getElem?_take, List.getElem?_map]
   by_cases hi : i < n
   · rw [if_pos hi, Array.getElem?_toList, h7 i hi, List.getElem?_range hi]; rfl
   · rw [if_neg hi, List.getElem?_eq_none (by simpa using hi)]; rfl
def upd (V : Nat → Nat → Int) (j i : Nat) (x : Int) : Nat → Nat → Int := fun a b => if a = j ∧ b = i then x else V a b
theorem upd_at (V : Nat → Nat → Int) (j i : Nat) (x : Int) : upd V j i x j i = x := by unfold upd; rw [if_pos ⟨rfl, rfl⟩]
theorem upd_ne (V : Nat → Nat → Int) {j i a b : Nat} (x : Int) (h : a ≠ j ∨ b ≠ i) : upd V j i x a b = V a b := by unfold upd; rw [if_neg (by omega)]
structure Pile (w : World) (lo hi : Nat) (T : List Value) (N : Nat → Nat) (V : Nat → Nat → Int) : Prop where
 rows : ∀ j, j < T.length → PRow w (fun k => lo ≤ k ∧ k < hi) (va T j) (N j) (V j)
 apart : ∀ i j k, i < T.length → j < T.length → (va T i).ownBlock = some k → (va T j).ownBlock = some k → i = j
def InP (T : List Value) (k : Nat) : Prop := ∃ j, j < T.length ∧ (va T j).ownBlock = some k
section
variable {w w' : World} {lo hi : Nat} {T : List Value} {N : Nat → Nat} {V : Nat → Nat → Int}
theorem Pile.step (h : Pile w lo hi T N V) (hm : ∀ k, InP T k → k < w.heap.size → w'.heap[k]? = w.heap[k]?) : Pile w' lo hi T N V :=
 ⟨fun j hj => (h.rows j hj).move (fun k hk hlt => hm k ⟨j, hj, hk⟩ hlt), h.apart⟩
theorem Pile.below (h : Pile w lo hi T N V) (hb : Below w.heap.size w w') : Pile w' lo hi T N V := h.step (fun k _ hk => hb.block k hk)
theorem Pile.inP (h : Pile w lo hi T N V) {k : Nat} (hk : InP T k) : lo ≤ k ∧ k < hi ∧ k < w.heap.size := by
 obtain ⟨j, hj, e⟩ := hk
 have := (h.rows j hj).lt e
 exact ⟨this.1.1, this.1.2, this.2⟩
theorem Pile.frame {P : Nat → Prop} (h : Pile w lo hi T N V) (f : Mem.Frame P w w') (hP : ∀ k, InP T k → ¬ P k) : Pile w' lo hi T N V := h.step (fun k hk hlt => f.block k hlt (hP k hk))
theorem Pile.wide {lo' hi' : Nat} (h : Pile w lo hi T N V) (h1 : lo' ≤ lo) (h2 : hi ≤ hi') : Pile w lo' hi' T N V := ⟨fun j hj => (h.rows j hj).mono (fun k hk => ⟨by omega, by omega⟩), h.apart⟩
theorem Pile.congr {V' : Nat → Nat → Int} (h : Pile w lo hi T N V) (e : ∀ j i, j < T.length → i < N j → V' j i = V j i) : Pile w lo hi T N V' := by
 refine ⟨fun j hj => ?_, h.apart⟩
 rcases h.rows j hj with q | ⟨g, cap, cur, h1, h2, h3, h4, h5, h6, h7⟩
 · exact .inl q
 · exact .inr ⟨g, cap, cur, h1, h2, h3, h4, h5, h6, fun i hi => by rw [e j i hj hi]; exact h7 i hi⟩
theorem Pile.put (h : Pile w lo hi T N V) {j i : Nat} (hj : j < T.length) (hi2 : i < N j) (x : Int) :
   ∃ g c, va T j = .slice (some ⟨g, 0, none⟩) (N j) c ∧ w.cell? ⟨g, i, none⟩ = some (.int .i64 (V j i)) ∧ w.frozen? ⟨g, i, none⟩ = false ∧ InP T g ∧ Pile (w.setCell ⟨g, i, none⟩ (.int .i64 x)) lo hi T N (upd V j i x) := by
 obtain ⟨g, c, e, h1, h2⟩ := (h.rows j hj).at hi2
 have hg : (va T j).ownBlock = some g := by rw [e]; rfl
 refine ⟨g, c, e, h1, h2, ⟨j, hj, hg⟩, fun q hq => ?_, h.apart⟩
 by_cases hqj : q = j
 · subst hqj
   rcases h.rows q hq with ⟨e2, _⟩ | ⟨g2, cap, cur, e2, a2, a3, a4, a5, a6, a7⟩
   · rw [e2] at hg; simp [Value.ownBlock] at hg
   · obtain rfl : g2 = g := by rw [e2] at hg; simpa [Value.ownBlock] using hg
     refine .inr ⟨g2, cap, _, e2, a2, heap_set a3 _, a4, a5, by simpa using a6, fun k hk => ?_⟩
     rw [Array.getElem?_setIfInBounds]
     by_cases hki : i = k
     · subst hki
       rw [if_pos rfl, if_pos (by omega), upd_at]
     · rw [if_neg hki, upd_ne _ _ (.inr (fun e => hki e.symm))]
       exact a7 k hk
 · have := (h.rows q hq).move (w' := w.setCell ⟨g, i, none⟩ (.int .i64 x)) (fun k hk hlt => Below.heap_setCell _ _ _ _ (fun e => hqj (h.apart q j g hq hj (by rw [hk, e]) hg)))
   have e3 : upd V j i x q = V q := funext fun b => upd_ne _ _ (.inl hqj)
   rw [e3]
   exact this
end
def Ext (w : World) (S0 : Nat) (v0 v : Value) (n : Nat) : Prop := (∃ xs, w.ownsRow 0 3 1 v n xs) ∧ ∀ k, v.ownBlock = some k → v0.ownBlock = some k ∨ S0 ≤ k
theorem Ext.slice {w : World} {S0 : Nat} {v0 v : Value} {n : Nat} (h : Ext w S0 v0 v n) : ∃ A c, v = .slice A n c := by
 obtain ⟨xs, h1, h2 | ⟨g, cap, cur, h2, _⟩⟩ := h.1
 · exact ⟨none, 0, by rw [h2.1, h2.2]⟩
 · exact ⟨_, _, h2⟩
theorem Ext.start {w : World} {lo hi : Nat} {T : List Value} {N : Nat → Nat} {V : Nat → Nat → Int} (h : Pile w lo hi T N V) (S0 : Nat) {j : Nat} (hj : j < T.length) : Ext w S0 (va T j) (va T j) (N j) := ⟨⟨_, (h.rows j hj).own⟩, fun k hk => .inl hk⟩
theorem Ext.below {w w' : World} {S0 : Nat} {v0 v : Value} {n : Nat} (h : Ext w S0 v0 v n) (hm : ∀ k, v.ownBlock = some k → k < w.heap.size → w'.heap[k]? = w.heap[k]?) : Ext w' S0 v0 v n := by
 obtain ⟨⟨xs, h1⟩, h2⟩ := h
 refine ⟨⟨xs, own_move h1 (fun k hk => hm k hk (h1.lt k hk).2)⟩, h2⟩
section
variable {P : Program} {ops : Array Oper} {rest : List Oper} {o : Oper} {a : Act} {Q : Exit → Act → World → Prop}
theorem append_exact {W : World} (hgd : o.guard = none) (s x : Operand) (t e : TypeId) (z : Value) (bytes : Nat)
   (ho : o.op = .call { callee := .builtin .append, args := #[s, x], argTypes := #[t, t] })
   (ht : P.underlying t = some (.slice e)) (hinfo : (P.info? e).map (fun i => (i.zero, i.size, i.bytes)) = some (some z, 1, bytes)) (hz : z.cells.size = 1) (hb0 : 0 < bytes)
   (v : Value) (n : Nat) (xs : List Value) (y : Value) (hs : a.eval s = v) (hx : a.eval x = .slice (some ⟨W.heap.size, 0, none⟩) 1 1) (h1 : y.oneCell' = true)
   (HO : W.ownsRow 0 e 1 v n xs) (hl : (n + 1) * bytes ≤ 140737488355328)
   (h : ∀ v1 w1, w1.ownsRow 0 e 1 v1 (n + 1) (xs ++ [y]) → W.grownBy w1 v.ownBlock → ((v1.ownBlock = v.ownBlock ∧ ∀ g cur, v.ownBlock = some g → W.heap[g]? = some (.cells cur e (0, 0)) → ∃ cur', w1.heap[g]? = some (.cells cur' e (0, 0)) ∧ cur'.size = cur.size ∧ ∀ i, i < n → cur'[i]? = cur[i]?) ∨ (W.grownBy w1 none ∧ ∃ b, v1.ownBlock = some b ∧ W.heap.size ≤ b)) → wpList P ops Q rest (a.put o.dst v1) w1) :
   wpList P ops Q (o :: rest) a (W.alloc (.cells #[y] e)) := by
 obtain ⟨i0, hi, hzz⟩ := Option.map_eq_some_iff.1 hinfo
 simp only [Prod.mk.injEq] at hzz
 obtain ⟨hz0, hz1, hz2⟩ := hzz
 have hlen : n + 1 ≤ 140737488355328 := Nat.le_trans (Nat.le_mul_of_pos_right _ hb0) hl
 have hnews : ∀ j u, [y][j]? = some u → (W.alloc (.cells #[y] e)).cell? ((⟨W.heap.size, 0, none⟩ : Addr).add j) = some u := by
   simpa using World.news_of_block (cs := #[y]) (t := e) (fr := (0, 0)) (heap_alloc_new W (.cells #[y] e))
 have hone : ∀ u ∈ [y], u.oneCell' = true := by simpa using h1
 have hA : W.grownBy (W.alloc (.cells #[y] e)) none := World.grownBy_alloc W _ _
 rcases HO.2 with ⟨rfl, rfl⟩ | ⟨g, cap, cur, rfl, _, hg, hnc, hcm, hcs, htake⟩
 · have hx0 : xs = [] := List.eq_nil_of_length_eq_zero (by simpa using HO.1)
   subst hx0
   refine wpList_append_grows (W.alloc (.cells #[y] e)) hgd s x t ho e i0 z 1 bytes ht hi hz0 hz1 hz2 hz (by omega) none 0 0 [] hs (fun _ => ⟨rfl, rfl⟩) rfl (fun b hb => by cases hb) ⟨W.heap.size, 0, none⟩ 1 1 [y] hx rfl hnews hone (by omega) (by simp only [maxLen]; omega) hl ?_
   intro v' w' hown hg2
   have hlow := own_weaken hown (Nat.zero_le _)
   refine h v' w' hlow (World.grownBy.trans (World.grownBy_alloc W _ _) ⟨hg2.os, hg2.tape, hg2.output, hg2.size, fun k hk _ => hg2.block k hk (by simp)⟩) (.inr ⟨World.grownBy.trans hA hg2, ?_⟩)
   rcases hown.2 with ⟨_, e0⟩ | ⟨b, _, _, rfl, hb, _⟩
   · omega
   · exact ⟨b, rfl, by simp at hb; omega⟩
 · have hne : g ≠ W.heap.size := by have := lt_of hg; omega
   have hg' : (W.alloc (.cells #[y] e)).heap[g]? = some (.cells cur e (0, 0)) := heap_old hg _
   have hcur : cur.size = cap := by omega
   refine wpList_append_arg (W.alloc (.cells #[y] e)) hgd s x t ho e i0 z 1 bytes ht hi hz0 hz1 hz2 hz (by omega) g 0 n cap xs hs HO.1 (fun j u hj => ?_) ⟨W.heap.size, 0, none⟩ 1 1 [y] hx rfl hnews hone (fun hr j hj => ?_) (by simp only [maxLen]; omega) hl (fun hr => ?_) (fun hr v' w' hown hg2 => ?_)
   · have := (HO.alloc (.cells #[y] e)).cells (g := g) rfl j u hj
     rw [add_plain] at this
     rw [Nat.zero_add]
     exact this
   · obtain rfl : j = 0 := by simpa using hj
     refine ⟨?_, heap_free hg' _⟩
     have hlt2 : n < cur.size := by omega
     rw [heap_cell hg' (v := cur[n]) (by simp [Array.getElem?_eq_getElem hlt2])]
     rfl
   · have e1 : ((W.alloc (.cells #[y] e)).setCells g (0 + n * 1) [y]) = (W.alloc (.cells #[y] e)).setCell ⟨g, n, none⟩ y := by
       rw [Nat.zero_add, Nat.mul_one]; rfl
     rw [e1]
     have hset := heap_set (i := n) hg' y
     refine h _ _ ⟨by simp; have := HO.1; omega, .inr ⟨g, cap, _, rfl, Nat.zero_le _, hset, hr, hcm, by simp; omega, ?_⟩⟩ ?_ (.inl ⟨rfl, fun g2 cur2 e2 hc2 => ?_⟩)
     · apply List.ext_getElem?
       intro i
       have hxl : xs.length = n := by have := HO.1; omega
       rw [List.getElem?_take, Array.getElem?_toList, Array.getElem?_setIfInBounds]
       by_cases hi1 : i < n
       · rw [if_pos (by omega), if_neg (by omega), List.getElem?_append_left (by omega), ← htake, List.getElem?_take, if_pos (by omega), Array.getElem?_toList]
       · by_cases hi2 : i = n
         · subst hi2
           rw [if_pos (by omega), if_pos rfl, if_pos (by omega), List.getElem?_append_right (by omega), hxl]
           simp
         · rw [if_neg (by omega), List.getElem?_eq_none (by simp; omega)]
     · exact World.grownBy.trans (World.grownBy_alloc W _ _) ⟨rfl, rfl, rfl, by simp [World.setCell], fun k _ hk => Below.heap_setCell _ _ _ _ (fun e => hk (by rw [e]; rfl))⟩
     · obtain rfl : g = g2 := by simpa [Value.ownBlock] using e2
       rw [hg] at hc2
       injection hc2 with hc2
       injection hc2 with hc2 _ _
       subst hc2
       exact ⟨_, hset, by simp, fun i hi2 => by rw [Array.getElem?_setIfInBounds, if_neg (by omega)]⟩
   · have hlow := own_weaken hown (Nat.zero_le _)
     refine h v' w' hlow (World.grownBy.trans (World.grownBy_alloc W _ _) ⟨hg2.os, hg2.tape, hg2.output, hg2.size, fun k hk _ => hg2.block k hk (by simp)⟩) (.inr ⟨World.grownBy.trans hA hg2, ?_⟩)
     rcases hown.2 with ⟨_, e0⟩ | ⟨b, _, _, rfl, hb, _⟩
     · omega
     · exact ⟨b, rfl, by simp at hb; omega⟩
theorem Pile.append {W : World} {lo hi : Nat} {T : List Value} {N : Nat → Nat} {V : Nat → Nat → Int} (hgd : o.guard = none) (s x : Operand) (t : TypeId)
   (ho : o.op = .call { callee := .builtin .append, args := #[s, x], argTypes := #[t, t] })
   (ht : P.underlying t = some (.slice 3)) (hinfo : (P.info? 3).map (fun i => (i.zero, i.size, i.bytes)) = some (some (.int .i64 0), 1, 8))
   (S0 j : Nat) (v : Value) (n : Nat) (y : Int) (hs : a.eval s = v) (hx : a.eval x = .slice (some ⟨W.heap.size, 0, none⟩) 1 1)
   (hP : Pile W lo hi T N V) (hj : j < T.length) (hn : N j ≤ n) (hE : Ext W S0 (va T j) v n) (hS : hi ≤ S0) (hSW : S0 ≤ W.heap.size) (hl : n ≤ 17000000000000)
   (h : ∀ A d w1, Pile w1 lo hi T N V → Ext w1 S0 (va T j) (.slice A (n + 1) d) (n + 1) → Mem.Frame (fun k => (va T j).ownBlock = some k ∨ S0 ≤ k) W w1 → (∀ g, (Value.slice A (n + 1) d).ownBlock = some g → A = some ⟨g, 0, none⟩ ∧ w1.cell? ⟨g, n, none⟩ = some (.int .i64 y)) → A ≠ none → wpList P ops Q rest (a.put o.dst (.slice A (n + 1) d)) w1) :
   wpList P ops Q (o :: rest) a (W.alloc (.cells #[.int .i64 y] 3)) := by
 obtain ⟨⟨xs, hown⟩, hE2⟩ := hE
 refine append_exact hgd s x t 3 (.int .i64 0) 8 ho ht hinfo rfl (by omega) v n xs (.int .i64 y) hs hx rfl hown (by omega) ?_
 intro v1 w1 hown1 hg1 hk
 have hxl : xs.length = n := by have := hown.1; omega
 have hat : ∀ k, v1.ownBlock = some k → (va T j).ownBlock = some k ∨ S0 ≤ k := fun k hk1 => by
   rcases hk with ⟨e, _⟩ | ⟨_, b, e, hb⟩
   · exact hE2 k (by rw [← e]; exact hk1)
   · rw [e] at hk1
     obtain rfl : b = k := by simpa using hk1
     exact .inr (by omega)
 have hPile : Pile w1 lo hi T N V := by
   refine ⟨fun q hq => ?_, hP.apart⟩
   by_cases hqj : q = j
   · subst hqj
     rcases hk with ⟨e, hcur⟩ | ⟨hg0, _⟩
     · rcases hP.rows q hq with e2 | ⟨g, cap, cur, e1, a2, a3, a4, a5, a6, a7⟩
       · exact .inl e2
       · by_cases hvb : v.ownBlock = some g
         · obtain ⟨cur', b1, b2, b3⟩ := hcur g cur hvb a3
           exact .inr ⟨g, cap, cur', e1, a2, b1, a4, a5, by omega, fun i hi2 => by rw [b3 i (by omega)]; exact a7 i hi2⟩
         · exact .inr ⟨g, cap, cur, e1, a2, by rw [hg1.block g (lt_of a3) (fun e => hvb e.symm)]; exact a3, a4, a5, a6, a7⟩
     · exact (hP.rows q hq).move (fun k _ hlt => hg0.block k hlt (by simp))
   · refine (hP.rows q hq).move (fun k hk1 hlt => hg1.block k hlt (fun e => ?_))
     rcases hE2 k e.symm with c | c
     · exact hqj (hP.apart q j k hq hj hk1 c)
     · have := ((hP.rows q hq).lt hk1).1; omega
 have hF : Mem.Frame (fun k => (va T j).ownBlock = some k ∨ S0 ≤ k) W w1 :=
   ⟨hg1.os, hg1.tape, hg1.output, hg1.size, fun k hlt hk1 => hg1.block k hlt (fun e => hk1 (hE2 k e.symm))⟩
 have hE1 : Ext w1 S0 (va T j) v1 (n + 1) := ⟨⟨_, hown1⟩, hat⟩
 have hcell : ∀ g, v1.ownBlock = some g → w1.cell? ⟨g, n, none⟩ = some (.int .i64 y) := fun g e => by
   have := hown1.cells e n (.int .i64 y) (by rw [List.getElem?_append_right (by omega), hxl]; simp)
   rw [add_plain] at this
   exact this
 rcases hown1.2 with ⟨_, e0⟩ | ⟨g, cap, cur, rfl, _⟩
 · omega
 · exact h _ _ _ hPile hE1 hF (fun g' e => by
     obtain rfl : g = g' := by simpa [Value.ownBlock] using e
     exact ⟨rfl, hcell g rfl⟩) (by simp)
end
structure Grid (w : World) (lo hi : Nat) (A : Option Addr) (T : List Value) (N : Nat → Nat) (V : Nat → Nat → Int) : Prop where
 pile : Pile w lo hi T N V
 outer : ∀ j, j < T.length → ∃ g, A = some ⟨g, 0, none⟩ ∧ w.cell? ⟨g, j, none⟩ = some (va T j)
 far : ∀ g, A = some ⟨g, 0, none⟩ → ¬ InP T g ∧ lo ≤ g ∧ g < hi
section
variable {w w' : World} {lo hi : Nat} {A : Option Addr} {T : List Value} {N : Nat → Nat} {V : Nat → Nat → Int}
theorem Grid.frame {P : Nat → Prop} (h : Grid w lo hi A T N V) (f : Mem.Frame P w w') (hP : ∀ k, lo ≤ k → k < hi → ¬ P k) : Grid w' lo hi A T N V := by
 refine ⟨h.pile.frame f (fun k hk => hP k (h.pile.inP hk).1 (h.pile.inP hk).2.1), fun j hj => ?_, h.far⟩
 obtain ⟨g, e, hc⟩ := h.outer j hj
 have := h.far g e
 exact ⟨g, e, (World.cell?_of_block (f.block g (cell_lt hc) (hP g this.2.1 this.2.2))).trans hc⟩
theorem Grid.below (h : Grid w lo hi A T N V) (hb : Below w.heap.size w w') : Grid w' lo hi A T N V := h.frame (Mem.Frame.of_below (S := fun _ => False) hb) (fun _ _ _ q => q)
theorem Grid.outer_frame {P : Nat → Prop} (h : Grid w lo hi A T N V) {V' : Nat → Nat → Int} (hp : Pile w' lo hi T N V') (f : Mem.Frame P w w') (hP : ∀ g, A = some ⟨g, 0, none⟩ → ¬ P g) : Grid w' lo hi A T N V' := by
 refine ⟨hp, fun j hj => ?_, h.far⟩
 obtain ⟨g, e, hc⟩ := h.outer j hj
 exact ⟨g, e, (World.cell?_of_block (f.block g (cell_lt hc) (hP g e))).trans hc⟩
theorem Grid.congr {V' : Nat → Nat → Int} (h : Grid w lo hi A T N V) (e : ∀ j i, j < T.length → i < N j → V' j i = V j i) : Grid w lo hi A T N V' := ⟨h.pile.congr e, h.outer, h.far⟩
theorem Grid.put (h : Grid w lo hi A T N V) {j i : Nat} (hj : j < T.length) (hi2 : i < N j) (x : Int) :
   ∃ g c, va T j = .slice (some ⟨g, 0, none⟩) (N j) c ∧ w.cell? ⟨g, i, none⟩ = some (.int .i64 (V j i)) ∧ w.frozen? ⟨g, i, none⟩ = false ∧ InP T g ∧ Grid (w.setCell ⟨g, i, none⟩ (.int .i64 x)) lo hi A T N (upd V j i x) := by
 obtain ⟨g, c, e, h1, h2, h3, h4⟩ := h.pile.put hj hi2 x
 refine ⟨g, c, e, h1, h2, h3, h.outer_frame h4 ((Mem.Frame.refl (InP T) w).setCell (p := ⟨g, i, none⟩) h3 _) (fun g2 e2 => (h.far g2 e2).1)⟩
theorem Grid.row (h : Grid w lo hi A T N V) {j : Nat} (hj : j < T.length) : ∃ g B c, A = some ⟨g, 0, none⟩ ∧ va T j = .slice B (N j) c ∧ w.cell? ⟨g, j, none⟩ = some (.slice B (N j) c) := by
 obtain ⟨g, e, hc⟩ := h.outer j hj
 obtain ⟨B, c, e2⟩ := (h.pile.rows j hj).slice
 exact ⟨g, B, c, e, e2, by rw [hc, e2]⟩
end
structure Lsts (w : World) (lo hi : Nat) (A : Option Addr) (c : Nat) (xs : List (List Int)) : Prop where
 S : Kd.S KR 34 w lo (fun k => lo ≤ k ∧ k < hi) (.slice A xs.length c) xs
theorem Lsts.of {w : World} {lo : Nat} {A : Option Addr} {c : Nat} {xs : List (List Int)} {ok : Nat → Prop} (h : Kd.S KR 34 w lo ok (.slice A xs.length c) xs) : Lsts w lo w.heap.size A c xs :=
 ⟨Kd.S_mono (Kd.S_bound h) (fun k hk => ⟨hk.2.1, hk.2.2.1⟩)⟩
section
variable {w w' : World} {lo hi : Nat} {A : Option Addr} {c : Nat} {xs : List (List Int)}
theorem Lsts.below (h : Lsts w lo hi A c xs) (hb : Below w.heap.size w w') : Lsts w' lo hi A c xs := ⟨Kd.S_below h.S hb⟩
theorem Lsts.frame {P : Nat → Prop} (h : Lsts w lo hi A c xs) (f : Mem.Frame P w w') (hP : ∀ k, lo ≤ k → k < hi → ¬ P k) : Lsts w' lo hi A c xs := ⟨Kd.S_step h.S (fun k hk hlt => f.block k hlt (hP k hk.1 hk.2))⟩
theorem Lsts.reads (h : Lsts w lo hi A c xs) : Kd.C KR w A xs.length xs ∧ xs.length ≤ c := ⟨(Kd.S_reads' h.S).2.2, (Kd.S_reads' h.S).2.1⟩
end
structure Heaps (w : World) (lo hi : Nat) (T : List Value) (D : List (List Int)) : Prop where
 len : T.length = D.length
 pile : Pile w lo hi T (fun j => (gl D j).length) (fun j => gi (gl D j))
theorem va_app1 (T T' : List Value) {j : Nat} (h : j < T.length) : va (T ++ T') j = va T j := by unfold va; simp [List.getD_eq_getElem?_getD, List.getElem?_append_left h]
theorem va_app2 (T T' : List Value) {j : Nat} (h : T.length ≤ j) : va (T ++ T') j = va T' (j - T.length) := by unfold va; simp [List.getD_eq_getElem?_getD, List.getElem?_append_right h]
theorem gl_app1 (T T' : List (List Int)) {j : Nat} (h : j < T.length) : gl (T ++ T') j = gl T j := by unfold gl; simp [List.getD_eq_getElem?_getD, List.getElem?_append_left h]
theorem gl_app2 (T T' : List (List Int)) {j : Nat} (h : T.length ≤ j) : gl (T ++ T') j = gl T' (j - T.length) := by unfold gl; simp [List.getD_eq_getElem?_getD, List.getElem?_append_right h]
theorem Heaps.nil (w : World) (lo hi : Nat) : Heaps w lo hi [] [] := ⟨rfl, ⟨fun j h => absurd h (by simp), fun i j k h => absurd h (by simp)⟩⟩
section
variable {w w' : World} {lo mid hi : Nat} {T T' : List Value} {D D' : List (List Int)}
theorem Heaps.app (h : Heaps w lo mid T D) (h' : Heaps w mid hi T' D') (h1 : lo ≤ mid) (h2 : mid ≤ hi) : Heaps w lo hi (T ++ T') (D ++ D') := by
 have hl := h.len
 have hl' := h'.len
 refine ⟨by simp [hl, hl'], ⟨fun j hj => ?_, fun i j k hi' hj e1 e2 => ?_⟩⟩
 · rw [List.length_append] at hj
   by_cases c : j < T.length
   · rw [va_app1 _ _ c, gl_app1 _ _ (by omega)]
     exact (h.pile.rows j c).mono (fun k hk => ⟨hk.1, by omega⟩)
   · rw [va_app2 _ _ (by omega), gl_app2 _ _ (by omega), ← hl]
     exact (h'.pile.rows (j - T.length) (by omega)).mono (fun k hk => ⟨by omega, hk.2⟩)
 · rw [List.length_append] at hi' hj
   by_cases c : i < T.length <;> by_cases d : j < T.length
   · rw [va_app1 _ _ c] at e1
     rw [va_app1 _ _ d] at e2
     exact h.pile.apart i j k c d e1 e2
   · rw [va_app1 _ _ c] at e1
     rw [va_app2 _ _ (by omega)] at e2
     have a := ((h.pile.rows i c).lt e1).1
     have b := ((h'.pile.rows (j - T.length) (by omega)).lt e2).1
     omega
   · rw [va_app2 _ _ (by omega)] at e1
     rw [va_app1 _ _ d] at e2
     have a := ((h.pile.rows j d).lt e2).1
     have b := ((h'.pile.rows (i - T.length) (by omega)).lt e1).1
     omega
   · rw [va_app2 _ _ (by omega)] at e1 e2
     have := h'.pile.apart _ _ k (by omega) (by omega) e1 e2
     omega
theorem Heaps.app2 {lo1 hi1 lo2 hi2 : Nat} (h : Heaps w lo1 hi1 T D) (h' : Heaps w lo2 hi2 T' D') (h1 : hi2 ≤ lo1) (h2 : lo2 ≤ hi2) (h3 : lo1 ≤ hi1) : Heaps w lo2 hi1 (T ++ T') (D ++ D') := by
 have hl := h.len
 have hl' := h'.len
 refine ⟨by simp [hl, hl'], ⟨fun j hj => ?_, fun i j k hi' hj e1 e2 => ?_⟩⟩
 · rw [List.length_append] at hj
   by_cases c : j < T.length
   · rw [va_app1 _ _ c, gl_app1 _ _ (by omega)]
     exact (h.pile.rows j c).mono (fun k hk => ⟨by omega, hk.2⟩)
   · rw [va_app2 _ _ (by omega), gl_app2 _ _ (by omega), ← hl]
     exact (h'.pile.rows (j - T.length) (by omega)).mono (fun k hk => ⟨hk.1, by omega⟩)
 · rw [List.length_append] at hi' hj
   by_cases c : i < T.length <;> by_cases d : j < T.length
   · rw [va_app1 _ _ c] at e1
     rw [va_app1 _ _ d] at e2
     exact h.pile.apart i j k c d e1 e2
   · rw [va_app1 _ _ c] at e1
     rw [va_app2 _ _ (by omega)] at e2
     have a := ((h.pile.rows i c).lt e1).1
     have b := ((h'.pile.rows (j - T.length) (by omega)).lt e2).1
     omega
   · rw [va_app2 _ _ (by omega)] at e1
     rw [va_app1 _ _ d] at e2
     have a := ((h.pile.rows j d).lt e2).1
     have b := ((h'.pile.rows (i - T.length) (by omega)).lt e1).1
     omega
   · rw [va_app2 _ _ (by omega)] at e1 e2
     have := h'.pile.apart _ _ k (by omega) (by omega) e1 e2
     omega
theorem Heaps.wide {lo' hi' : Nat} (h : Heaps w lo hi T D) (h1 : lo' ≤ lo) (h2 : hi ≤ hi') : Heaps w lo' hi' T D := ⟨h.len, h.pile.wide h1 h2⟩
theorem Heaps.below (h : Heaps w lo hi T D) (hb : Below w.heap.size w w') : Heaps w' lo hi T D := ⟨h.len, h.pile.below hb⟩
theorem Heaps.frame {P : Nat → Prop} (h : Heaps w lo hi T D) (f : Mem.Frame P w w') (hP : ∀ k, lo ≤ k → k < hi → ¬ P k) : Heaps w' lo hi T D := ⟨h.len, h.pile.frame f (fun k hk => hP k (h.pile.inP hk).1 (h.pile.inP hk).2.1)⟩
theorem Heaps.grown {v : Value} (h : Heaps w lo hi T D) (hty : ∀ k, v.ownBlock = some k → ∃ cells, w.heap[k]? = some (.cells cells 34 (0, 0))) (hg : w.grownBy w' v.ownBlock) : Heaps w' lo hi T D := by
 refine ⟨h.len, h.pile.step (fun k hk hlt => hg.block k hlt (fun e => ?_))⟩
 obtain ⟨j, hj, e1⟩ := hk
 obtain ⟨c1, hc1⟩ := hty k e.symm
 rcases h.pile.rows j hj with ⟨e2, _⟩ | ⟨g, cap, cur, e2, _, h3, _⟩
 · rw [e2] at e1; simp [Value.ownBlock] at e1
 · rw [e2] at e1
   obtain rfl : g = k := by simpa [Value.ownBlock] using e1
   rw [h3] at hc1
   injection hc1 with hc1
   injection hc1 with _ h5 _
   exact absurd h5 (by decide)
end
theorem Heaps.one {w : World} {lo : Nat} {ok : Nat → Prop} {v : Value} {xs : List Int} (h : Kd.R (Kd.int .i64) 3 w lo ok v xs) : Heaps w lo w.heap.size [v] [xs] := by
 refine ⟨rfl, ⟨fun j hj => ?_, fun i j k hi hj _ _ => ?_⟩⟩
 · obtain rfl : j = 0 := by simpa using hj
   exact (PRow.of_R (Kd.R_bound h)).mono (fun k hk => ⟨hk.2.1, hk.2.2.1⟩)
 · simp at hi hj; omega
structure Outer (w : World) (A : Option Addr) (T : List Value) : Prop where
 cells : ∀ j, j < T.length → ∃ g, A = some ⟨g, 0, none⟩ ∧ w.cell? ⟨g, j, none⟩ = some (va T j)
theorem Outer.below {w w' : World} {A : Option Addr} {T : List Value} (h : Outer w A T) (hb : Below w.heap.size w w') : Outer w' A T := ⟨fun j hj => by
 obtain ⟨g, e, hc⟩ := h.cells j hj
 exact ⟨g, e, (hb.cell (cell_lt hc)).trans hc⟩⟩
def ones (G : List Value) : List (List Value) := G.map fun v => [v]
theorem ones_length (G : List Value) : (ones G).length = G.length := by unfold ones; simp
theorem ones_snoc (G : List Value) (v : Value) : ones (G ++ [v]) = ones G ++ [[v]] := by unfold ones; simp
theorem ones_app (G H : List Value) : ones (G ++ H) = ones G ++ ones H := by unfold ones; simp
theorem Outer.reads {w : World} {lo hi : Nat} {A : Option Addr} {T : List Value} {D : List (List Int)} (h : Outer w A T) (hP : Heaps w lo hi T D) (hl : T.length ≤ 9223372036854775807) : Kd.C (Kd.raw 1) w A T.length (ones T) := by
 refine ⟨ones_length T, hl, fun hp => ?_⟩
 obtain ⟨g, e, _⟩ := h.cells 0 hp
 refine ⟨_, e, fun j p hj => ?_⟩
 unfold ones at hj
 rw [List.getElem?_map] at hj
 obtain ⟨v, hv, rfl⟩ := Option.map_eq_some_iff.1 hj
 have hjl : j < T.length := (List.getElem?_eq_some_iff.1 hv).1
 obtain ⟨g2, e2, hc⟩ := h.cells j hjl
 obtain rfl : g = g2 := by rw [e] at e2; injection e2 with e2; injection e2
 have ev : va T j = v := by rw [va_of hjl] at hv; exact Option.some.inj hv
 refine ⟨[v], rfl, (show (Kd.raw 1).K w [v] [v] from ⟨rfl, rfl, fun u hu => ?_⟩), fun i u hu => ?_⟩
 · rw [List.mem_singleton] at hu
   obtain ⟨B, c, es⟩ := (hP.pile.rows j hjl).slice
   rw [hu, ← ev, es]
   rfl
 · obtain rfl : i = 0 := by
     rcases i with _ | i
     · rfl
     · simp at hu
   obtain rfl : v = u := by simpa using hu
   rw [show (Kd.raw 1).sz = 1 from rfl, Nat.mul_one, Nat.add_zero, add_plain, hc, ev]
theorem Heaps.grid {w : World} {lo hi base : Nat} {ok : Nat → Prop} {A : Option Addr} {n c : Nat} {T : List Value} {D : List (List Int)} (h : Heaps w lo hi T D) (hR : Kd.R (Kd.raw 1) 34 w base ok (.slice A n c) (ones T)) (h1 : lo ≤ base) (h2 : w.heap.size ≤ hi) : Grid w lo hi A T (fun j => (gl D j).length) (fun j => gi (gl D j)) := by
 refine ⟨h.pile, fun j hj => ?_, fun g hg => ?_⟩
 · obtain ⟨e1, e2, hC⟩ := Kd.R_reads' hR
   obtain ⟨ad, e3, h3⟩ := hC.2.2 (by rw [ones_length]; omega)
   subst e3
   obtain ⟨g, rfl⟩ := Kd.R_head hR
   have hv : (ones T)[j]? = some [va T j] := by unfold ones; rw [List.getElem?_map, va_of hj]; rfl
   obtain ⟨cs, hcs, ⟨rfl, _, _⟩, hcell⟩ := h3 j _ hv
   have := hcell 0 _ rfl
   rw [show (Kd.raw 1).sz = 1 from rfl, Nat.mul_one, Nat.add_zero, add_plain] at this
   exact ⟨g, rfl, this⟩
 · subst hg
   have a := Kd.R_base hR g rfl
   have b := Kd.R_lt hR g rfl
   refine ⟨fun ⟨j, hj, e⟩ => ?_, by omega, by omega⟩
   obtain ⟨c1, hc1⟩ := Kd.R_typed hR g rfl
   rcases h.pile.rows j hj with ⟨e2, _⟩ | ⟨g2, cap, cur, e2, _, h3, _⟩
   · rw [e2] at e; simp [Value.ownBlock] at e
   · rw [e2] at e
     obtain rfl : g2 = g := by simpa [Value.ownBlock] using e
     rw [h3] at hc1
     injection hc1 with hc1
     injection hc1 with _ h5 _
     exact absurd h5 (by decide)
end Go.Proofs.Ytoajoklpbfehiaa.Pile
namespace Go.Proofs.Ytoajoklpbfehiaa.Pile
open Go.RowKit Go.Proofs.YtoajoklpbfehiaaW.PrintWords Go.Proofs.YtoajoklpbfehiaaW.PrintLast Go.Proofs.YtoajoklpbfehiaaW.PrintMore Go.Proofs.Ytoajoklpbfehiaa.Mem
set_option linter.unusedVariables false
set_option linter.unusedSimpArgs false
theorem one_raw (v : Value) (h : v.oneCell' = true) (W : World) (base : Nat) (ok : Nat → Prop) : (Kd.raw 1).M W base ok [v] [v] := by
 refine ⟨rfl, rfl, fun u hu => ?_⟩
 rw [List.mem_singleton] at hu
 rw [hu]
 exact h
theorem va_old (G : List Value) (v : Value) {j : Nat} (h : j < G.length) : va (G ++ [v]) j = va G j := by unfold va; simp [List.getD_eq_getElem?_getD, List.getElem?_append_left h]
theorem va_new (G : List Value) (v : Value) : va (G ++ [v]) G.length = v := by unfold va; simp [List.getD_eq_getElem?_getD]
theorem raw_at {w : World} {base : Nat} {ok : Nat → Prop} {A : Option Addr} {n c : Nat} {G : List Value} (h : Kd.R (Kd.raw 1) 34 w base ok (.slice A n c) (ones G)) {j : Nat} (hj : j < G.length) : ∃ g, A = some ⟨g, 0, none⟩ ∧ w.cell? ⟨g, j, none⟩ = some (va G j) := by
 obtain ⟨e1, e2, hC⟩ := Kd.R_reads' h
 obtain ⟨ad, e3, h3⟩ := hC.2.2 (by rw [ones_length]; omega)
 subst e3
 obtain ⟨g, rfl⟩ := Kd.R_head h
 have hv : (ones G)[j]? = some [va G j] := by unfold ones; rw [List.getElem?_map, va_of hj]; rfl
 obtain ⟨cs, hcs, ⟨rfl, _, _⟩, hcell⟩ := h3 j _ hv
 have := hcell 0 _ rfl
 rw [show (Kd.raw 1).sz = 1 from rfl, Nat.mul_one, Nat.add_zero, add_plain] at this
 exact ⟨g, rfl, this⟩
def Gr (w : World) (SA : Nat) (T : List Value) (N : Nat → Nat) (i : Nat) (v : Value) (x : Int) : Prop :=
 ∃ g cc, v = .slice (some ⟨g, 0, none⟩) (N i + 1) cc ∧ w.cell? ⟨g, N i, none⟩ = some (.int .i64 x) ∧ (∃ cells, w.heap[g]? = some (.cells cells 3 (0, 0))) ∧ ((va T i).ownBlock = some g ∨ SA ≤ g)
theorem Gr.move {w w' : World} {SA : Nat} {T : List Value} {N : Nat → Nat} {i : Nat} {v : Value} {x : Int} (h : Gr w SA T N i v x) (hm : ∀ g cells, w.heap[g]? = some (.cells cells 3 (0, 0)) → ((va T i).ownBlock = some g ∨ SA ≤ g) → w'.heap[g]? = w.heap[g]?) : Gr w' SA T N i v x := by
 obtain ⟨g, cc, e, h1, ⟨cells, h2⟩, h3⟩ := h
 have := hm g cells h2 h3
 exact ⟨g, cc, e, (World.cell?_of_block this).trans h1, ⟨cells, this.trans h2⟩, h3⟩
theorem Ext.typed {w : World} {S0 : Nat} {v0 v : Value} {n : Nat} (h : Ext w S0 v0 v n) {g : Nat} (hg : v.ownBlock = some g) : ∃ cells, w.heap[g]? = some (.cells cells 3 (0, 0)) := by
 obtain ⟨⟨xs, h1⟩, _⟩ := h
 exact own_typed h1 g hg
set_option maxHeartbeats 4000000 in
set_option maxRecDepth 100000 in
theorem apart_calls (A : Option Addr) (n c : Nat) (T : List Value) (N : Nat → Nat) (V : Nat → Nat → Int) (lo hi : Nat) (w : World) (hG : Grid w lo hi A T N V) (hT : T.length = n) (hn : n ≤ 1000000000000) (hN : ∀ j, j < n → N j ≤ 16000000000000) (hhi : hi ≤ w.heap.size) :
   Calls Try.prog 29 #[.slice A n c] w fun e w' => e = .returned (.bool true) ∧ Mem.Frame (InP T) w w' := by
 have HTA := Aside0.mk hT
 have HNB := Aside0.mk hN
 have HHI := Aside0.mk hhi
 have HF : Aside0 (Mem.Frame (InP T) w w) := ⟨Mem.Frame.refl _ _⟩
 have HAV : Aside0 (∃ V, Grid w lo hi A T N V ∧ ∀ a i, a < 0 → i < N a → V a i = -1000 - (a : Int)) := ⟨V, hG, fun a i h => absurd h (by omega)⟩
 clear hG hT hN hhi
 go_enter Try.func29, Try.ntmps29
 go_wp2_with fail
 go_loopw [16] (fun y ws => ∃ (j : Nat), y = .int .i64 (j : Int) ∧ j ≤ n ∧ Aside0 (Mem.Frame (InP T) w ws) ∧ Aside0 (∃ V, Grid ws lo hi A T N V ∧ ∀ a i, a < j → i < N a → V a i = -1000 - (a : Int))) (fun y _ => n - (intOf y).toNat)
 case atStart => exact ⟨0, rfl, by omega, HF, HAV⟩
 case round =>
   clear HF HAV
   obtain ⟨j, rfl, hj, HF, HAV⟩ := hrel
   by_cases hlt : j < n
   · obtain ⟨V, hGr, hV⟩ := HAV.out
     obtain ⟨go, B, cB, rfl, hva, hx1⟩ := hGr.row (j := j) (by rw [HTA.out]; exact hlt)
     have HVA := Aside0.mk hva
     obtain ⟨L, hL⟩ : ∃ L, L = N j := ⟨_, rfl⟩
     have HLL := Aside0.mk hL
     have hLb : L ≤ 16000000000000 := by rw [hL]; exact HNB.out j hlt
     rw [← hL] at hx1
     have HAI : Aside0 (∃ V, Grid wr lo hi (some ⟨go, 0, none⟩) T N V ∧ (∀ a i, a < j → i < N a → V a i = -1000 - (a : Int)) ∧ ∀ i, i < 0 → V j i = -1000 - (j : Int)) := ⟨V, hGr, hV, fun i h => absurd h (by omega)⟩
     clear hGr hV hva hL HAV
     go_wp2_with fail
     clear hx1
     go_loopw [23] (fun y ws => ∃ (i : Nat), y = .int .i64 (i : Int) ∧ i ≤ L ∧ Aside0 (Mem.Frame (InP T) w ws) ∧ Aside0 (∃ V, Grid ws lo hi (some ⟨go, 0, none⟩) T N V ∧ (∀ a i, a < j → i < N a → V a i = -1000 - (a : Int)) ∧ ∀ i', i' < i → V j i' = -1000 - (j : Int))) (fun y _ => L - (intOf y).toNat)
     case atStart => exact ⟨0, rfl, by omega, HF, HAI⟩
     case round =>
       clear HF HAI
       obtain ⟨i, rfl, hi', HF, HAI⟩ := hrel
       by_cases hil : i < L
       · obtain ⟨V, hGr, hV, hV2⟩ := HAI.out
         obtain ⟨x, hxx⟩ : ∃ x, x = -1000 - (j : Int) := ⟨_, rfl⟩
         have r1 : IntKind.i64.wrap (-1000 - (j : Int)) = x := by rw [IntWalk.i64_in _ (by omega)]; exact hxx.symm
         obtain ⟨g, c2, e2, z0, f0, hIn, hG2⟩ := hGr.put (j := j) (i := i) (by rw [HTA.out]; exact hlt) (by rw [← HLL.out]; exact hil) x
         rw [HVA.out] at e2
         injection e2 with e4 _ e5
         subst e4 e5
         have HF2 := Aside0.mk (HF.out.setCell (p := ⟨g, i, none⟩) hIn (.int .i64 x))
         have HAI2 : Aside0 (∃ V, Grid (wr.setCell ⟨g, i, none⟩ (.int .i64 x)) lo hi (some ⟨go, 0, none⟩) T N V ∧ (∀ a i, a < j → i < N a → V a i = -1000 - (a : Int)) ∧ ∀ i', i' < i + 1 → V j i' = -1000 - (j : Int)) :=
           ⟨_, hG2, fun a i2 h1 h2 => by rw [upd_ne _ _ (.inl (by omega))]; exact hV a i2 h1 h2, fun i2 h2 => by
             by_cases e7 : i2 = i
             · rw [e7, upd_at, hxx]
             · rw [upd_ne _ _ (.inr e7)]; exact hV2 i2 (by omega)⟩
         clear hGr hV hV2 hG2 hIn HF HAI hxx
         go_wp2_with fail
         clear z0 f0 r1
         go_roundw
         case rel => exact ⟨i + 1, by go_num, by omega, HF2, HAI2⟩
         case measure => simp [intOf]; omega
       · obtain rfl : L = i := by omega
         obtain ⟨V, hGr, hV, hV2⟩ := HAI.out
         have HAV2 : Aside0 (∃ V, Grid wr lo hi (some ⟨go, 0, none⟩) T N V ∧ ∀ a i, a < j + 1 → i < N a → V a i = -1000 - (a : Int)) := ⟨V, hGr, fun a i2 h1 h2 => by
           rcases Nat.lt_succ_iff_lt_or_eq.1 h1 with h3 | h3
           · exact hV a i2 h3 h2
           · rw [h3] at h2 ⊢; exact hV2 i2 (by rw [HLL.out]; exact h2)⟩
         clear hGr hV hV2 HAI
         go_wp2_with fail
         go_roundw
         case rel => exact ⟨j + 1, by go_num, by omega, HF, HAV2⟩
         case measure => simp [intOf]; omega
   · obtain rfl : n = j := by omega
     have HGR : Aside0 (Grid wr lo hi A T N (fun a _ => -1000 - (a : Int))) := by
       obtain ⟨V, hGr, hV⟩ := HAV.out
       exact ⟨hGr.congr (fun a i h1 h2 => (hV a i (by rw [← HTA.out]; exact h1) h2).symm)⟩
     clear HAV hj hlt
     obtain ⟨SA, hSA⟩ : ∃ SA, SA = wr.heap.size := ⟨_, rfl⟩
     have HSA : Aside0 (w.heap.size ≤ SA ∧ hi ≤ SA) := ⟨by have := HF.out.size; have := HHI.out; omega⟩
     have HSW : Aside0 (SA ≤ wr.heap.size) := ⟨Nat.le_of_eq hSA⟩
     have HGS : Aside0 (∃ G : List Value, G.length = 0 ∧ Kd.R (Kd.raw 1) 34 wr SA (fun _ => True) (.slice none 0 0) (ones G) ∧ ∀ i, i < 0 → Gr wr SA T N i (va G i) (5000 + (i : Int))) := ⟨[], rfl, Kd.R_nil _ _ _ _ _, fun i h => absurd h (by omega)⟩
     clear hSA
     go_wp2_with fail
     go_loopw [6, 35] (fun v y ws => ∃ (j : Nat) (Ag : Option Addr) (cg : Nat), v = .slice Ag j cg ∧ y = .int .i64 (j : Int) ∧ j ≤ n ∧ Aside0 (Mem.Frame (InP T) w ws) ∧ Aside0 (Grid ws lo hi A T N (fun a _ => -1000 - (a : Int))) ∧ Aside0 (SA ≤ ws.heap.size) ∧ Aside0 (∃ G : List Value, G.length = j ∧ Kd.R (Kd.raw 1) 34 ws SA (fun _ => True) (.slice Ag j cg) (ones G) ∧ ∀ i, i < j → Gr ws SA T N i (va G i) (5000 + (i : Int)))) (fun _ y _ => n - (intOf y).toNat)
     case atStart => exact ⟨0, none, 0, rfl, rfl, by omega, HF, HGR, HSW, HGS⟩
     case round =>
       clear HF HGR HSW HGS
       obtain ⟨j, Ag, cg, rfl, rfl, hj, HF, HGR, HSW, HGS⟩ := hrel
       by_cases hlt : j < n
       · obtain ⟨go, B, cB, rfl, hva, hx1⟩ := HGR.out.row (j := j) (by rw [HTA.out]; exact hlt)
         have HVA := Aside0.mk hva
         obtain ⟨L, hL⟩ : ∃ L, L = N j := ⟨_, rfl⟩
         have HLL := Aside0.mk hL
         have hLb : L ≤ 16000000000000 := by rw [hL]; exact HNB.out j hlt
         rw [← hL] at hx1
         obtain ⟨W0, hW0⟩ : ∃ W0, W0 = wr := ⟨_, rfl⟩
         obtain ⟨S0, hS0⟩ : ∃ S0, S0 = W0.heap.size := ⟨_, rfl⟩
         have HS0 : Aside0 (S0 = W0.heap.size ∧ SA ≤ S0) := ⟨hS0, by rw [hS0, hW0]; exact HSW.out⟩
         have HJT : Aside0 (j < T.length) := ⟨by rw [HTA.out]; exact hlt⟩
         have HEX : Aside0 (Ext wr S0 (va T j) (.slice B L cB) L) := ⟨by
           have := Ext.start HGR.out.pile S0 HJT.out
           rw [hL]
           rw [hva] at this ⊢
           exact this⟩
         have HFI : Aside0 (Mem.Frame (fun k => (va T j).ownBlock = some k ∨ S0 ≤ k) W0 wr) := ⟨by rw [hW0]; exact Mem.Frame.refl _ _⟩
         have HGI := HGR
         rw [← hW0] at HGS HF
         clear hva hL hW0 hS0 HSW HGR
         go_wp2_with fail
         clear hx1
         go_loopw [9, 10] (fun v y ws => ∃ (i M : Nat) (B : Option Addr) (d : Nat), v = .slice B M d ∧ y = .int .i64 (i : Int) ∧ i ≤ 32 ∧ Aside0 (M = L + i) ∧ Aside0 (Mem.Frame (fun k => (va T j).ownBlock = some k ∨ S0 ≤ k) W0 ws) ∧ Aside0 (Grid ws lo hi (some ⟨go, 0, none⟩) T N (fun a _ => -1000 - (a : Int))) ∧ Aside0 (Ext ws S0 (va T j) (.slice B M d) M)) (fun _ y _ => 32 - (intOf y).toNat)
         case atStart => exact ⟨0, L, B, cB, rfl, rfl, by omega, ⟨by omega⟩, HFI, HGI, HEX⟩
         case round =>
           clear HFI HGI HEX
           obtain ⟨i, M, B2, d, rfl, rfl, hi', HMQ, HFI, HGI, HEX⟩ := hrel
           by_cases hil : i < 32
           · have s1 : decide ((i : Int) < 32) = true := decide_eq_true (by omega)
             have HMM : Aside0 (M ≤ 16000000000032 ∧ L ≤ M) := ⟨by have := HMQ.out; omega⟩
             go_wp2_with ((with_reducible refine gate_builtin (b := .append) (xs := #[.tmp 45, .tmp 46]) rfl ?_); at_builtin; refine Pile.append (W := wr) rfl (.tmp 45) (.tmp 46) 34 rfl Try.underlying34 info_int S0 j (.slice B2 M d) M (-7) rfl rfl HGI.out.pile HJT.out (by rw [← HLL.out]; exact HMM.out.2) HEX.out (by have := HS0.out; have := HSA.out; omega) (by have := HS0.out.1; have := HFI.out.size; omega) (by have := HMM.out.1; omega) ?_)
             intro B3 d3 w7 hP hE hFr _ _
             have HFI2 : Aside0 (Mem.Frame (fun k => (va T j).ownBlock = some k ∨ S0 ≤ k) W0 w7) := ⟨HFI.out.trans hFr⟩
             have HGI2 : Aside0 (Grid w7 lo hi (some ⟨go, 0, none⟩) T N (fun a _ => -1000 - (a : Int))) := ⟨HGI.out.outer_frame hP hFr (fun g eg h => by
               have hf := HGI.out.far g eg
               rcases h with h | h
               · exact hf.1 ⟨j, HJT.out, h⟩
               · have := HS0.out; have := HSA.out; omega)⟩
             have HEX2 := Aside0.mk hE
             clear hP hE hFr HFI HGI HEX
             go_wp2_with fail
             clear s1
             go_roundw
             case rel => exact ⟨i + 1, M + 1, B3, d3, rfl, by go_num, by omega, ⟨by have := HMQ.out; omega⟩, HFI2, HGI2, HEX2⟩
             case measure => simp [intOf]; omega
           · obtain rfl : i = 32 := by omega
             obtain ⟨x5, hx5⟩ : ∃ x5, x5 = 5000 + (j : Int) := ⟨_, rfl⟩
             have r1 : IntKind.i64.wrap (5000 + (j : Int)) = x5 := by rw [IntWalk.i64_in _ (by omega)]; exact hx5.symm
             have HX5 := Aside0.mk hx5
             obtain ⟨S1, hS1⟩ : ∃ S1, S1 = wr.heap.size := ⟨_, rfl⟩
             have HS1 : Aside0 (S1 = wr.heap.size ∧ S0 ≤ S1 ∧ SA ≤ S1 ∧ hi ≤ S1) := ⟨by have := HFI.out.size; have := HS0.out; have := HSA.out; omega⟩
             have HLB := Aside0.mk hLb
             have HE0 : Aside0 (Ext wr S1 (va T j) (.slice B L cB) L) := ⟨by
               have := Ext.start HGI.out.pile S1 HJT.out
               rw [HLL.out]
               rw [HVA.out] at this ⊢
               exact this⟩
             clear hx5 hS1 HEX
             go_wp2_with ((with_reducible refine gate_builtin (b := .append) (xs := #[.tmp 49, .tmp 52]) rfl ?_); at_builtin; refine Pile.append (W := wr) rfl (.tmp 49) (.tmp 52) 34 rfl Try.underlying34 info_int S1 j (.slice B L cB) L x5 rfl rfl HGI.out.pile HJT.out (by rw [← HLL.out]; exact Nat.le_refl _) HE0.out HS1.out.2.2.2 (by have := HS1.out.1; omega) (by have := HLB.out; omega) ?_)
             intro B3 d3 w7 hP hE hFr hcl hBn
             obtain ⟨G, hGl, hGR, hGG⟩ := HGS.out
             have hF7 : Mem.Frame (fun k => (va T j).ownBlock = some k ∨ S0 ≤ k) W0 w7 := HFI.out.trans (hFr.mono (fun k _ h => by rcases h with h | h; exact .inl h; exact .inr (by have := HS1.out; omega)))
             have hst : ∀ k, SA ≤ k → k < W0.heap.size → w7.heap[k]? = W0.heap[k]? := fun k h1 h2 => hF7.block k h2 (fun h => by
               rcases h with h | h
               · have := (HGI.out.pile.inP ⟨j, HJT.out, h⟩).2.1; have := HSA.out; omega
               · have := HS0.out; omega)
             have hGR7 : Kd.R (Kd.raw 1) 34 w7 SA (fun _ => True) (.slice Ag j cg) (ones G) := Kd.R_mono (Kd.R_step (Kd.R_bound hGR) (fun k hk _ => hst k hk.2.1 hk.2.2.1)) (fun _ _ => trivial)
             have hGG7 : ∀ i, i < j → Gr w7 SA T N i (va G i) (5000 + (i : Int)) := fun i hi2 => (hGG i hi2).move (fun g cells hg h => hF7.block g (lt_of hg) (fun q => by
               rcases q with q | q
               · rcases h with h | h
                 · have := HGI.out.pile.apart i j g (by have := HJT.out; omega) HJT.out h q; omega
                 · have := (HGI.out.pile.inP ⟨j, HJT.out, q⟩).2.1; have := HSA.out; omega
               · have := lt_of hg; have := HS0.out; omega))
             have hG7 : Grid w7 lo hi (some ⟨go, 0, none⟩) T N (fun a _ => -1000 - (a : Int)) := HGI.out.outer_frame hP hFr (fun g eg h => by
               have hf := HGI.out.far g eg
               rcases h with h | h
               · exact hf.1 ⟨j, HJT.out, h⟩
               · have := HS1.out; omega)
             have hFw : Mem.Frame (InP T) w w7 := ⟨hF7.os.trans HF.out.os, hF7.tape.trans HF.out.tape, hF7.output.trans HF.out.output, Nat.le_trans HF.out.size hF7.size, fun q hq hs => (hF7.block q (Nat.lt_of_lt_of_le hq HF.out.size) (fun h => by
               rcases h with h | h
               · exact hs ⟨j, HJT.out, h⟩
               · have := HS0.out; have := HSA.out; omega)).trans (HF.out.block q hq hs)⟩
             have hSW7 : SA ≤ w7.heap.size := Nat.le_trans (by have := HS1.out; omega) hFr.size
             have hGN : Gr w7 SA T N j (.slice B3 (L + 1) d3) (5000 + (j : Int)) := by
               cases B3 with
               | none => exact absurd rfl hBn
               | some b3 =>
                 obtain ⟨e1, e2⟩ := hcl b3.block rfl
                 obtain ⟨cells, hty⟩ := hE.typed (g := b3.block) rfl
                 refine ⟨b3.block, d3, by rw [e1, HLL.out], by rw [← HLL.out, ← HX5.out]; exact e2, ⟨cells, hty⟩, ?_⟩
                 rcases hE.2 b3.block rfl with h | h
                 · exact .inl h
                 · exact .inr (by have := HS1.out; omega)
             have HGR7 := Aside0.mk hGR7
             have HGG7 := Aside0.mk hGG7
             have HG7 := Aside0.mk hG7
             have HFw := Aside0.mk hFw
             have HSW7 := Aside0.mk hSW7
             have HGN := Aside0.mk hGN
             have HGL := Aside0.mk hGl
             have HBW : Aside0 (Below SA w7 w7) := ⟨Below.refl _ _⟩
             have hjb : (j + 1) * 24 ≤ 140737488355328 := by omega
             have HJB : Aside0 (((ones G).length + 1) * 24 ≤ 140737488355328) := ⟨by rw [ones_length, hGl]; exact hjb⟩
             have HOL : Aside0 ((ones G).length = j) := ⟨by rw [ones_length, hGl]⟩
             clear hP hE hFr hcl hBn hGl hGR hGG hF7 hst hGR7 hGG7 hG7 hFw hSW7 hGN HFI HGI HE0 HS1 hjb HF HGS r1
             go_wp2_with ((with_reducible refine gate_builtin (b := .append) (xs := #[.tmp 48, .tmp 54]) rfl ?_); at_builtin; refine Kd.R_append (Kd.raw 1) (w0 := w7) (W := w7) SA rfl (.tmp 48) (.tmp 54) 51 34 (.slice none 0 0) 24 rfl Try.underlying51 info_ints rfl (by decide) (by omega) (.slice Ag j cg) (ones G) [.slice B3 (L + 1) d3] [.slice B3 (L + 1) d3] (fun _ => True) (fun _ => False) rfl rfl (one_raw _ rfl _ _ _) (fun _ hk => hk.elim) (fun _ _ => trivial) HGR7.out HBW.out HSW7.out HJB.out ?_)
             intro v4 w8 hR8 hb8 hg8 _
             rw [← ones_snoc] at hR8
             obtain ⟨Ag2, cg2, rfl⟩ := Kd.R_slice hR8
             have e9 : (ones (G ++ [.slice B3 (L + 1) d3])).length = j + 1 := by rw [ones_length, List.length_append, HGL.out]; rfl
             rw [e9] at hR8 ⊢
             have hne : ∀ k cells, w7.heap[k]? = some (.cells cells 3 (0, 0)) → some k ≠ (Value.slice Ag j cg).ownBlock := fun k cells hk => Kd.R_ne HGR7.out hk (by decide)
             have hlo : ∀ k, k < SA → some k ≠ (Value.slice Ag j cg).ownBlock := fun k hk e => by have := Kd.R_base HGR7.out k e.symm; omega
             have HF2 : Aside0 (Mem.Frame (InP T) w w8) := ⟨⟨hg8.os.trans HFw.out.os, hg8.tape.trans HFw.out.tape, hg8.output.trans HFw.out.output, Nat.le_trans HFw.out.size hg8.size, fun q hq hs => (hg8.block q (Nat.lt_of_lt_of_le hq HFw.out.size) (hlo q (by have := HSA.out.1; omega))).trans (HFw.out.block q hq hs)⟩⟩
             have HGR2 : Aside0 (Grid w8 lo hi (some ⟨go, 0, none⟩) T N (fun a _ => -1000 - (a : Int))) := ⟨HG7.out.frame (P := fun k => SA ≤ k) ⟨hg8.os, hg8.tape, hg8.output, hg8.size, fun k hk hs => hg8.block k hk (hlo k (by omega))⟩ (fun k _ h1 h2 => by have := HSA.out; omega)⟩
             have HSW2 : Aside0 (SA ≤ w8.heap.size) := ⟨Nat.le_trans HSW7.out hg8.size⟩
             have HGS2 : Aside0 (∃ G : List Value, G.length = j + 1 ∧ Kd.R (Kd.raw 1) 34 w8 SA (fun _ => True) (.slice Ag2 (j + 1) cg2) (ones G) ∧ ∀ i, i < j + 1 → Gr w8 SA T N i (va G i) (5000 + (i : Int))) := ⟨_, by rw [← ones_length]; exact e9, hR8, fun i hi2 => by
               have hm : ∀ g cells, w7.heap[g]? = some (.cells cells 3 (0, 0)) → ((va T i).ownBlock = some g ∨ SA ≤ g) → w8.heap[g]? = w7.heap[g]? := fun g cells hg _ => hg8.block g (lt_of hg) (hne g cells hg)
               rcases Nat.lt_succ_iff_lt_or_eq.1 hi2 with h | h
               · rw [va_old _ _ (by rw [HGL.out]; exact h)]
                 exact (HGG7.out i h).move hm
               · subst h
                 have e10 := va_new G (.slice B3 (L + 1) d3)
                 rw [HGL.out] at e10
                 rw [e10]
                 exact HGN.out.move hm⟩
             clear hR8 hb8 hg8 e9 hne hlo HGR7 HGG7 HG7 HFw HSW7 HGN HGL HBW HJB HOL HX5 HLB
             go_wp2_with fail
             go_roundw
             case rel => exact ⟨j + 1, Ag2, cg2, rfl, by go_num, by omega, HF2, HGR2, HSW2, HGS2⟩
             case measure => simp [intOf]; omega
       · obtain rfl : n = j := by omega
         clear hj hlt
         go_wp2_with fail
         go_loopw [59] (fun y ws => ∃ (j : Nat), y = .int .i64 (j : Int) ∧ j ≤ n ∧ Aside0 (Mem.Frame (InP T) w ws) ∧ Aside0 (Grid ws lo hi A T N (fun a _ => -1000 - (a : Int))) ∧ Aside0 (∃ G : List Value, G.length = n ∧ Kd.R (Kd.raw 1) 34 ws SA (fun _ => True) (.slice Ag n cg) (ones G) ∧ ∀ i, i < n → Gr ws SA T N i (va G i) (5000 + (i : Int)))) (fun y _ => n - (intOf y).toNat)
         case atStart => exact ⟨0, rfl, by omega, HF, HGR, HGS⟩
         case round =>
           clear HF HGR HGS
           obtain ⟨j, rfl, hj, HF, HGR, HGS⟩ := hrel
           by_cases hlt : j < n
           · obtain ⟨go, B, cB, rfl, hva, hx1⟩ := HGR.out.row (j := j) (by rw [HTA.out]; exact hlt)
             have HVA := Aside0.mk hva
             obtain ⟨L, hL⟩ : ∃ L, L = N j := ⟨_, rfl⟩
             have HLL := Aside0.mk hL
             have hLb : L ≤ 16000000000000 := by rw [hL]; exact HNB.out j hlt
             rw [← hL] at hx1
             clear hva hL
             go_wp2_with fail
             clear hx1
             go_loopw [66] (fun y ws => ∃ (i : Nat), y = .int .i64 (i : Int) ∧ i ≤ L ∧ Aside0 (Mem.Frame (InP T) w ws) ∧ Aside0 (Grid ws lo hi (some ⟨go, 0, none⟩) T N (fun a _ => -1000 - (a : Int))) ∧ Aside0 (∃ G : List Value, G.length = n ∧ Kd.R (Kd.raw 1) 34 ws SA (fun _ => True) (.slice Ag n cg) (ones G) ∧ ∀ i, i < n → Gr ws SA T N i (va G i) (5000 + (i : Int)))) (fun y _ => L - (intOf y).toNat)
             case atStart => exact ⟨0, rfl, by omega, HF, HGR, HGS⟩
             case round =>
               clear HF HGR HGS
               obtain ⟨i, rfl, hi', HF, HGR, HGS⟩ := hrel
               by_cases hil : i < L
               · obtain ⟨x, hxx⟩ : ∃ x, x = -1000 - (j : Int) := ⟨_, rfl⟩
                 have r1 : IntKind.i64.wrap (-1000 - (j : Int)) = x := by rw [IntWalk.i64_in _ (by omega)]; exact hxx.symm
                 have t0 : (x != x) = false := bne_eq_false_iff_eq.2 rfl
                 obtain ⟨g, c2, e2, z0, _⟩ := (HGR.out.pile.rows j (by rw [HTA.out]; exact hlt)).at (i := i) (by rw [← HLL.out]; exact hil)
                 rw [HVA.out] at e2
                 injection e2 with e4 _ e5
                 subst e4 e5
                 rw [← hxx] at z0
                 clear hxx
                 go_wp2_with fail
                 clear z0 r1 t0
                 go_roundw
                 case rel => exact ⟨i + 1, by go_num, by omega, HF, HGR, HGS⟩
                 case measure => simp [intOf]; omega
               · obtain rfl : L = i := by omega
                 obtain ⟨G, hGl, hGR, hGG⟩ := HGS.out
                 obtain ⟨gg, rfl, hy⟩ := raw_at hGR (j := j) (by omega)
                 obtain ⟨g, cc, e1, z0, _, _⟩ := hGG j hlt
                 rw [e1, ← HLL.out] at hy
                 rw [← HLL.out] at z0
                 obtain ⟨x, hxx⟩ : ∃ x, x = 5000 + (j : Int) := ⟨_, rfl⟩
                 have r1 : IntKind.i64.wrap (5000 + (j : Int)) = x := by rw [IntWalk.i64_in _ (by omega)]; exact hxx.symm
                 have t0 : (x != x) = false := bne_eq_false_iff_eq.2 rfl
                 rw [← hxx] at z0
                 clear hGl hGR hGG e1 hxx
                 go_wp2_with fail
                 clear hy z0 r1 t0
                 go_roundw
                 case rel => exact ⟨j + 1, by go_num, by omega, HF, HGR, HGS⟩
                 case measure => simp [intOf]; omega
           · obtain rfl : n = j := by omega
             go_wp2_with fail
             go_ret
             exact ⟨by simp, HF.out⟩
end Go.Proofs.Ytoajoklpbfehiaa.Pile
namespace Go.Proofs.Ytoajoklpbfehiaa.GAll
open Go.RowKit Go.Proofs.YtoajoklpbfehiaaW.PrintWords Go.Proofs.YtoajoklpbfehiaaW.PrintLast Go.Proofs.YtoajoklpbfehiaaW.PrintMore
set_option linter.unusedVariables false
set_option linter.unusedSimpArgs false
structure S45 where
 (f0 : Int) (f1 : Int)
def z45 : S45 := ⟨(0 : Int), (0 : Int)⟩
def k45 : Kd S45 := Kd.iso (Kd.pair (Kd.int .i64) (Kd.int .i64)) (fun x : S45 => (x.f0, x.f1))
theorem pair_open {w : World} {x : S45} {cs : List Value} (h : k45.K w x cs) : cs = [.int .i64 x.f0, .int .i64 x.f1] := by
 obtain ⟨_, _, rfl, rfl, rfl⟩ := h
 exact rfl
def prs (l : List S45) : List (Int × Int) := l.map fun x => (x.f0, x.f1)
theorem prs_length (l : List S45) : (prs l).length = l.length := List.length_map ..
theorem pair_pairs {w : World} {A : Option Addr} {l : List S45} (h : Kd.C k45 w A l.length l) : Sets.Pairs w A (prs l) := by
 intro i hi
 rw [prs_length] at hi
 obtain ⟨ad, c, e, _, hK, hc0⟩ := Kd.C_get h z45 (i : Int) (by omega) (by omega)
 have hc : ∀ j u, c[j]? = some u → w.cell? (ad.add (i * 2 + j)) = some u := hc0
 have hc1 := hc
 obtain rfl := pair_open hK
 have e2 : Sets.pe (prs l) i = ((l.getD (i : Int).toNat z45).f0, (l.getD (i : Int).toNat z45).f1) := by
   unfold Sets.pe prs
   simp [List.getD_eq_getElem?_getD, hi]
 rw [e2]
 exact ⟨ad, e, hc 0 _ rfl, by rw [← add_field _ _ 1 (by omega)]; exact hc 1 _ rfl⟩
end Go.Proofs.Ytoajoklpbfehiaa.GAll
namespace Go.Proofs.Ytoajoklpbfehiaa.GAll
open Go.RowKit Go.Proofs.YtoajoklpbfehiaaW.PrintWords Go.Proofs.YtoajoklpbfehiaaW.PrintLast Go.Proofs.YtoajoklpbfehiaaW.PrintMore
attribute [local go_sem] max2_int min2_int max_two min_two max_three min_three max_four min_four   -- for this text's walks alone
set_option linter.unusedVariables false
set_option linter.unusedSimpArgs false
def tangramref01_SameInts.l0 : Nat → List Int → List Int → Int → Option (Bool)
 | 0, _, _, _ => none
 | k + 1, x0, x1, x5 => if x5 < (x0.length : Int) then (if 0 ≤ x5 then (if x5 < (x1.length : Int) then (if (rd x0 x5) = (rd x1 x5) then (tangramref01_SameInts.l0 k x0 x1 (wrap64 (x5 + 1))) else (some false)) else (none)) else (none)) else (some true)
def tangramref01_SameInts.f (k : Nat) (l0 : List Int) (l1 : List Int) : Option (Bool) := if (l0.length : Int) = (l1.length : Int) then (tangramref01_SameInts.l0 k l0 l1 0) else (some false)
theorem tangramref01_SameInts.mono_l : ∀ k, (∀ y0 y1 y2, LeO (tangramref01_SameInts.l0 k y0 y1 y2) (tangramref01_SameInts.l0 (k + 1) y0 y1 y2))
 | 0 => fun _ _ _ r h => by simp [tangramref01_SameInts.l0] at h
 | k + 1 => by
   have ih0 := tangramref01_SameInts.mono_l k
   · intro y0 y1 y2
     unfold tangramref01_SameInts.l0
     repeat' first
     | (with_reducible exact ih0 _ _ _)
     | (with_reducible exact LeO.refl _)
     | (with_reducible exact LeO.none _)
     | (with_reducible refine LeO.ite ?_ ?_)
     | (with_reducible refine LeO.bind ?_ (fun _ => ?_))
     | exact ih0 _ _ _
     | exact LeO.none _
     | refine LeO.ite ?_ ?_
     | refine LeO.bind ?_ (fun _ => ?_)
theorem tangramref01_SameInts.mono : ∀ a0 a1 k, LeO (tangramref01_SameInts.f k a0 a1) (tangramref01_SameInts.f (k + 1) a0 a1) := by
 intro a0 a1 k
 have ih0 := tangramref01_SameInts.mono_l k
 unfold tangramref01_SameInts.f
 repeat' first
     | (with_reducible exact ih0 _ _ _)
     | (with_reducible exact LeO.refl _)
     | (with_reducible exact LeO.none _)
     | (with_reducible refine LeO.ite ?_ ?_)
     | (with_reducible refine LeO.bind ?_ (fun _ => ?_))
     | exact ih0 _ _ _
     | exact LeO.none _
     | refine LeO.ite ?_ ?_
     | refine LeO.bind ?_ (fun _ => ?_)
set_option maxHeartbeats 8000000 in
set_option maxRecDepth 100000 in
theorem tangramref01_SameInts.calls (k : Nat) (A0 : Option Addr) (c0 : Nat) (l0 : List Int) (A1 : Option Addr) (c1 : Nat) (l1 : List Int) (r : Bool) (w : World) (hr0 : Kd.C (Kd.int .i64) w A0 l0.length l0) (hc0 : l0.length ≤ c0) (hr1 : Kd.C (Kd.int .i64) w A1 l1.length l1) (hc1 : l1.length ≤ c1) (h : tangramref01_SameInts.f k l0 l1 = some r) :
   Calls Try.prog 28 #[.slice A0 l0.length c0, .slice A1 l1.length c1] w fun e w' => e = .returned (.bool r) ∧ Drawn0 w w' := by
 have HR0 := Aside0.mk hr0
 have HC0 := Aside0.mk hc0
 clear hr0 hc0
 have HR1 := Aside0.mk hr1
 have HC1 := Aside0.mk hc1
 clear hr1 hc1
 have H : (if (l0.length : Int) = (l1.length : Int) then (tangramref01_SameInts.l0 k l0 l1 0) else (some false)) = some r := h
 clear h
 by_cases c3 : (l0.length : Int) = (l1.length : Int)
 · rw [if_pos c3] at H
   have c3b0 : ((l0.length : Int) == (l1.length : Int)) = true := beq_iff_eq.mpr c3
   have c3b1 : ((l0.length : Int) != (l1.length : Int)) = false := bne_eq_false_iff_eq.mpr c3
   have c3b2 : (l0.length == l1.length) = true := by first | simpa using c3 | (simp at c3 ⊢; omega)
   clear c3
   have H' := Aside0.mk H
   clear H
   go_enter Try.func28, Try.ntmps28
   go_wp2
   repeat (go_quiet (fail); try go_wp2)
   go_loopg [5] k (fun kq v5 w' => ∃ (x5_1 : Int), v5 = .int .i64 x5_1 ∧ Aside0 (tangramref01_SameInts.l0 kq l0 l1 x5_1 = some r) ∧ Aside0 (kq ≤ k) ∧ Drawn0 w w')
   case atStart => exact ⟨(0), (by first | rfl | (simp; done) | (simp [*]; done)), H', ⟨Nat.le_refl _⟩, by repeat (first | exact Drawn0.refl _ | apply Drawn0.step)⟩
   case round =>
     clear H'
     try clear c1
     try clear c2
     try clear p2
     try clear c3
     try clear c3b0
     try clear c3b1
     try clear c3b2
     obtain ⟨x5_1, rfl, HA, HK1, ⟨m1, rfl⟩⟩ := hrel
     cases gk with
     | zero => exact absurd HA.out (by simp [tangramref01_SameInts.l0])
     | succ k1 =>
       have H := HA.out
       clear HA
       simp only [tangramref01_SameInts.l0] at H
       by_cases c4 : x5_1 < (l0.length : Int)
       · rw [if_pos c4] at H
         have c4b0 : decide (x5_1 < (l0.length : Int)) = true := decide_eq_true c4
         clear c4
         by_cases c5 : 0 ≤ x5_1
         · rw [if_pos c5] at H
           have c5b0 : decide (0 ≤ x5_1) = true := decide_eq_true c5
           clear c5
           by_cases c6 : x5_1 < (l1.length : Int)
           · rw [if_pos c6] at H
             have c6b0 : decide (x5_1 < (l1.length : Int)) = true := decide_eq_true c6
             clear c6
             by_cases c7 : (rd l0 x5_1) = (rd l1 x5_1)
             · rw [if_pos c7] at H
               have c7b0 : ((rd l0 x5_1) == (rd l1 x5_1)) = true := beq_iff_eq.mpr c7
               have c7b1 : ((rd l0 x5_1) != (rd l1 x5_1)) = false := bne_eq_false_iff_eq.mpr c7
               clear c7
               have H' := Aside0.mk H
               clear H
               have p101 : 0 ≤ (x5_1 : Int) := of_decide_eq_true (by first | (with_reducible assumption) | assumption)
               have q101 : x5_1 < (l0.length : Int) := of_decide_eq_true (by first | (with_reducible assumption) | assumption)
               obtain ⟨ad101, e101, hx101_0⟩ := Kd.at_int HR0.out x5_1 p101 q101
               cases e101
               replace p101 := eq_true p101
               replace q101 := eq_true q101
               have p102 : 0 ≤ (x5_1 : Int) := of_decide_eq_true (by first | (with_reducible assumption) | assumption)
               have q102 : x5_1 < (l1.length : Int) := of_decide_eq_true (by first | (with_reducible assumption) | assumption)
               obtain ⟨ad102, e102, hx102_0⟩ := Kd.at_int HR1.out x5_1 p102 q102
               cases e102
               replace p102 := eq_true p102
               replace q102 := eq_true q102
               go_wp2
               repeat (go_quiet (fail); try go_wp2)
               go_roundg k1
               case measure => have := HK1.out; omega
               case rel => exact ⟨(wrap64 (x5_1 + 1)), (by first | rfl | (simp; done) | (simp [*]; done)), H', ⟨by have := HK1.out; omega⟩, by repeat (first | exact Drawn0.refl _ | apply Drawn0.step)⟩
             · rw [if_neg c7] at H
               have c7b0 : ((rd l0 x5_1) == (rd l1 x5_1)) = false := beq_eq_false_iff_ne.mpr c7
               have c7b1 : ((rd l0 x5_1) != (rd l1 x5_1)) = true := bne_iff_ne.mpr c7
               obtain rfl := Option.some.inj H
               have p101 : 0 ≤ (x5_1 : Int) := of_decide_eq_true (by first | (with_reducible assumption) | assumption)
               have q101 : x5_1 < (l0.length : Int) := of_decide_eq_true (by first | (with_reducible assumption) | assumption)
               obtain ⟨ad101, e101, hx101_0⟩ := Kd.at_int HR0.out x5_1 p101 q101
               cases e101
               replace p101 := eq_true p101
               replace q101 := eq_true q101
               have p102 : 0 ≤ (x5_1 : Int) := of_decide_eq_true (by first | (with_reducible assumption) | assumption)
               have q102 : x5_1 < (l1.length : Int) := of_decide_eq_true (by first | (with_reducible assumption) | assumption)
               obtain ⟨ad102, e102, hx102_0⟩ := Kd.at_int HR1.out x5_1 p102 q102
               cases e102
               replace p102 := eq_true p102
               replace q102 := eq_true q102
               go_wp2
               repeat (go_quiet (fail); try go_wp2)
               go_ret
               exact ⟨by first | rfl | (simp; done) | (simp [*]; done), by repeat (first | exact Drawn0.refl _ | apply Drawn0.step)⟩
           · rw [if_neg c6] at H
             exact absurd H (by simp)
         · rw [if_neg c5] at H
           exact absurd H (by simp)
       · rw [if_neg c4] at H
         have c4b0 : decide (x5_1 < (l0.length : Int)) = false := decide_eq_false c4
         clear c4
         obtain rfl := Option.some.inj H
         go_wp2
         repeat (go_quiet (fail); try go_wp2)
         go_ret
         exact ⟨by first | rfl | (simp; done) | (simp [*]; done), by repeat (first | exact Drawn0.refl _ | apply Drawn0.step)⟩
 · rw [if_neg c3] at H
   have c3b0 : ((l0.length : Int) == (l1.length : Int)) = false := beq_eq_false_iff_ne.mpr c3
   have c3b1 : ((l0.length : Int) != (l1.length : Int)) = true := bne_iff_ne.mpr c3
   have c3b2 : (l0.length == l1.length) = false := by first | simpa using c3 | (simp at c3 ⊢; omega)
   obtain rfl := Option.some.inj H
   go_enter Try.func28, Try.ntmps28
   go_wp2
   repeat (go_quiet (fail); try go_wp2)
   go_ret
   exact ⟨by first | rfl | (simp; done) | (simp [*]; done), by repeat (first | exact Drawn0.refl _ | apply Drawn0.step)⟩
end Go.Proofs.Ytoajoklpbfehiaa.GAll
namespace Go.Proofs.Ytoajoklpbfehiaa.GAll
open Go.RowKit Go.Proofs.YtoajoklpbfehiaaW.PrintWords Go.Proofs.YtoajoklpbfehiaaW.PrintLast Go.Proofs.YtoajoklpbfehiaaW.PrintMore
attribute [local go_sem] max2_int min2_int max_two min_two max_three min_three max_four min_four   -- for this text's walks alone
set_option linter.unusedVariables false
set_option linter.unusedSimpArgs false
def tangramref01_SameLists.l0 : Nat → List (List Int) → List (List Int) → Int → Option (Bool)
 | 0, _, _, _ => none
 | k + 1, x0, x1, x5 => if x5 < (x0.length : Int) then (if 0 ≤ x5 then (if x5 < (x1.length : Int) then ((tangramref01_SameInts.f k (rd_L5 x0 x5) (rd_L5 x1 x5)).bind fun t152 => (if t152 = true then (tangramref01_SameLists.l0 k x0 x1 (wrap64 (x5 + 1))) else (some false))) else (none)) else (none)) else (some true)
def tangramref01_SameLists.f (k : Nat) (l0 : List (List Int)) (l1 : List (List Int)) : Option (Bool) := if (l0.length : Int) = (l1.length : Int) then (tangramref01_SameLists.l0 k l0 l1 0) else (some false)
theorem tangramref01_SameLists.mono_l : ∀ k, (∀ y0 y1 y2, LeO (tangramref01_SameLists.l0 k y0 y1 y2) (tangramref01_SameLists.l0 (k + 1) y0 y1 y2))
 | 0 => fun _ _ _ r h => by simp [tangramref01_SameLists.l0] at h
 | k + 1 => by
   have ih0 := tangramref01_SameLists.mono_l k
   · intro y0 y1 y2
     unfold tangramref01_SameLists.l0
     repeat' first
     | (with_reducible exact ih0 _ _ _)
     | (with_reducible exact tangramref01_SameInts.mono _ _ _)
     | (with_reducible exact LeO.refl _)
     | (with_reducible exact LeO.none _)
     | (with_reducible refine LeO.ite ?_ ?_)
     | (with_reducible refine LeO.bind ?_ (fun _ => ?_))
     | exact ih0 _ _ _
     | exact tangramref01_SameInts.mono _ _ _
     | exact LeO.none _
     | refine LeO.ite ?_ ?_
     | refine LeO.bind ?_ (fun _ => ?_)
theorem tangramref01_SameLists.mono : ∀ a0 a1 k, LeO (tangramref01_SameLists.f k a0 a1) (tangramref01_SameLists.f (k + 1) a0 a1) := by
 intro a0 a1 k
 have ih0 := tangramref01_SameLists.mono_l k
 unfold tangramref01_SameLists.f
 repeat' first
     | (with_reducible exact ih0 _ _ _)
     | (with_reducible exact tangramref01_SameInts.mono _ _ _)
     | (with_reducible exact LeO.refl _)
     | (with_reducible exact LeO.none _)
     | (with_reducible refine LeO.ite ?_ ?_)
     | (with_reducible refine LeO.bind ?_ (fun _ => ?_))
     | exact ih0 _ _ _
     | exact tangramref01_SameInts.mono _ _ _
     | exact LeO.none _
     | refine LeO.ite ?_ ?_
     | refine LeO.bind ?_ (fun _ => ?_)
set_option maxHeartbeats 8000000 in
set_option maxRecDepth 100000 in
theorem tangramref01_SameLists.calls (k : Nat) (A0 : Option Addr) (c0 : Nat) (l0 : List (List Int)) (A1 : Option Addr) (c1 : Nat) (l1 : List (List Int)) (r : Bool) (w : World) (hr0 : Kd.C (Kd.slice 3 (Kd.int .i64)) w A0 l0.length l0) (hc0 : l0.length ≤ c0) (hr1 : Kd.C (Kd.slice 3 (Kd.int .i64)) w A1 l1.length l1) (hc1 : l1.length ≤ c1) (h : tangramref01_SameLists.f k l0 l1 = some r) :
   Calls Try.prog 22 #[.slice A0 l0.length c0, .slice A1 l1.length c1] w fun e w' => e = .returned (.bool r) ∧ Drawn0 w w' := by
 have HR0 := Aside0.mk hr0
 have HC0 := Aside0.mk hc0
 clear hr0 hc0
 have HR1 := Aside0.mk hr1
 have HC1 := Aside0.mk hc1
 clear hr1 hc1
 have H : (if (l0.length : Int) = (l1.length : Int) then (tangramref01_SameLists.l0 k l0 l1 0) else (some false)) = some r := h
 clear h
 by_cases c3 : (l0.length : Int) = (l1.length : Int)
 · rw [if_pos c3] at H
   have c3b0 : ((l0.length : Int) == (l1.length : Int)) = true := beq_iff_eq.mpr c3
   have c3b1 : ((l0.length : Int) != (l1.length : Int)) = false := bne_eq_false_iff_eq.mpr c3
   have c3b2 : (l0.length == l1.length) = true := by first | simpa using c3 | (simp at c3 ⊢; omega)
   clear c3
   have H' := Aside0.mk H
   clear H
   go_enter Try.func22, Try.ntmps22
   go_wp2
   repeat (go_quiet (fail); try go_wp2)
   go_loopg [5] k (fun kq v5 w' => ∃ (x5_1 : Int), v5 = .int .i64 x5_1 ∧ Aside0 (tangramref01_SameLists.l0 kq l0 l1 x5_1 = some r) ∧ Aside0 (kq ≤ k) ∧ Drawn0 w w')
   case atStart => exact ⟨(0), (by first | rfl | (simp; done) | (simp [*]; done)), H', ⟨Nat.le_refl _⟩, by repeat (first | exact Drawn0.refl _ | apply Drawn0.step)⟩
   case round =>
     clear H'
     try clear c1
     try clear c2
     try clear p2
     try clear c3
     try clear c3b0
     try clear c3b1
     try clear c3b2
     obtain ⟨x5_1, rfl, HA, HK1, ⟨m1, rfl⟩⟩ := hrel
     cases gk with
     | zero => exact absurd HA.out (by simp [tangramref01_SameLists.l0])
     | succ k1 =>
       have H := HA.out
       clear HA
       simp only [tangramref01_SameLists.l0] at H
       by_cases c4 : x5_1 < (l0.length : Int)
       · rw [if_pos c4] at H
         have c4b0 : decide (x5_1 < (l0.length : Int)) = true := decide_eq_true c4
         clear c4
         by_cases c5 : 0 ≤ x5_1
         · rw [if_pos c5] at H
           have c5b0 : decide (0 ≤ x5_1) = true := decide_eq_true c5
           clear c5
           by_cases c6 : x5_1 < (l1.length : Int)
           · rw [if_pos c6] at H
             have c6b0 : decide (x5_1 < (l1.length : Int)) = true := decide_eq_true c6
             clear c6
             replace H := Option.bind_eq_some_iff.mp H
             obtain ⟨t152, A70, H⟩ := H
             replace H : (if t152 = true then (tangramref01_SameLists.l0 k1 l0 l1 (wrap64 (x5_1 + 1))) else (some false)) = some r := H
             have A7 := Aside0.mk A70
             clear A70
             by_cases c8 : t152 = true
             · subst c8
               have H1 : (tangramref01_SameLists.l0 k1 l0 l1 (wrap64 (x5_1 + 1))) = some r := by rw [if_pos rfl] at H; exact H
               clear H
               have H := H1
               clear H1
               have H' := Aside0.mk H
               clear H
               have p150 : 0 ≤ (x5_1 : Int) := of_decide_eq_true (by first | (with_reducible assumption) | assumption)
               have q150 : x5_1 < (l0.length : Int) := of_decide_eq_true (by first | (with_reducible assumption) | assumption)
               obtain ⟨ad150, A150_0, c150_0, e150, hx150_0, hl150_0, hi150_0⟩ := at_L5 HR0.out x5_1 p150 q150
               cases e150
               have HR150_0 := Aside0.mk hi150_0
               have HC150_0 := Aside0.mk hl150_0
               clear hi150_0 hl150_0
               replace p150 := eq_true p150
               replace q150 := eq_true q150
               have p151 : 0 ≤ (x5_1 : Int) := of_decide_eq_true (by first | (with_reducible assumption) | assumption)
               have q151 : x5_1 < (l1.length : Int) := of_decide_eq_true (by first | (with_reducible assumption) | assumption)
               obtain ⟨ad151, A151_0, c151_0, e151, hx151_0, hl151_0, hi151_0⟩ := at_L5 HR1.out x5_1 p151 q151
               cases e151
               have HR151_0 := Aside0.mk hi151_0
               have HC151_0 := Aside0.mk hl151_0
               clear hi151_0 hl151_0
               replace p151 := eq_true p151
               replace q151 := eq_true q151
               go_wp2_with (first | (go_at_call 28; (with_reducible refine (tangramref01_SameInts.calls k1 _ _ (rd_L5 l0 x5_1) _ _ (rd_L5 l1 x5_1) true _ ?side1 ?side2 ?side3 ?side4 A7.out).mono ?_); (case side1 => repeat (first | exact HR150_0.out | (with_reducible refine Kd.C_alloc ?_ _) | (with_reducible refine Kd.C_drewN ?_ _) | (with_reducible refine Kd.C_drew ?_))); (case side2 => exact HC150_0.out); (case side3 => repeat (first | exact HR151_0.out | (with_reducible refine Kd.C_alloc ?_ _) | (with_reducible refine Kd.C_drewN ?_ _) | (with_reducible refine Kd.C_drew ?_))); (case side4 => exact HC151_0.out); rintro e w' ⟨rfl, ⟨nd, rfl⟩⟩; (try first | exact ⟨rfl, _, World.drewN_drewN _ _ _⟩ | exact ⟨rfl, _, Eq.trans (World.drewN_drewN _ _ _) (congrArg (World.drewN _) (Nat.add_assoc _ _ _))⟩)))
               repeat (go_quiet (first | (go_at_call 28; (with_reducible refine (tangramref01_SameInts.calls k1 _ _ (rd_L5 l0 x5_1) _ _ (rd_L5 l1 x5_1) true _ ?side1 ?side2 ?side3 ?side4 A7.out).mono ?_); (case side1 => repeat (first | exact HR150_0.out | (with_reducible refine Kd.C_alloc ?_ _) | (with_reducible refine Kd.C_drewN ?_ _) | (with_reducible refine Kd.C_drew ?_))); (case side2 => exact HC150_0.out); (case side3 => repeat (first | exact HR151_0.out | (with_reducible refine Kd.C_alloc ?_ _) | (with_reducible refine Kd.C_drewN ?_ _) | (with_reducible refine Kd.C_drew ?_))); (case side4 => exact HC151_0.out); rintro e w' ⟨rfl, ⟨nd, rfl⟩⟩; (try first | exact ⟨rfl, _, World.drewN_drewN _ _ _⟩ | exact ⟨rfl, _, Eq.trans (World.drewN_drewN _ _ _) (congrArg (World.drewN _) (Nat.add_assoc _ _ _))⟩))); try go_wp2_with (first | (go_at_call 28; (with_reducible refine (tangramref01_SameInts.calls k1 _ _ (rd_L5 l0 x5_1) _ _ (rd_L5 l1 x5_1) true _ ?side1 ?side2 ?side3 ?side4 A7.out).mono ?_); (case side1 => repeat (first | exact HR150_0.out | (with_reducible refine Kd.C_alloc ?_ _) | (with_reducible refine Kd.C_drewN ?_ _) | (with_reducible refine Kd.C_drew ?_))); (case side2 => exact HC150_0.out); (case side3 => repeat (first | exact HR151_0.out | (with_reducible refine Kd.C_alloc ?_ _) | (with_reducible refine Kd.C_drewN ?_ _) | (with_reducible refine Kd.C_drew ?_))); (case side4 => exact HC151_0.out); rintro e w' ⟨rfl, ⟨nd, rfl⟩⟩; (try first | exact ⟨rfl, _, World.drewN_drewN _ _ _⟩ | exact ⟨rfl, _, Eq.trans (World.drewN_drewN _ _ _) (congrArg (World.drewN _) (Nat.add_assoc _ _ _))⟩))))
               go_roundg k1
               case measure => have := HK1.out; omega
               case rel => exact ⟨(wrap64 (x5_1 + 1)), (by first | rfl | (simp; done) | (simp [*]; done)), H', ⟨by have := HK1.out; omega⟩, by repeat (first | exact Drawn0.refl _ | apply Drawn0.step)⟩
             · replace c8 := Bool.eq_false_iff.mpr c8
               subst c8
               have H1 : (some false) = some r := by rw [if_neg (show ¬ (false = true) by decide)] at H; exact H
               clear H
               have H := H1
               clear H1
               obtain rfl := Option.some.inj H
               have p150 : 0 ≤ (x5_1 : Int) := of_decide_eq_true (by first | (with_reducible assumption) | assumption)
               have q150 : x5_1 < (l0.length : Int) := of_decide_eq_true (by first | (with_reducible assumption) | assumption)
               obtain ⟨ad150, A150_0, c150_0, e150, hx150_0, hl150_0, hi150_0⟩ := at_L5 HR0.out x5_1 p150 q150
               cases e150
               have HR150_0 := Aside0.mk hi150_0
               have HC150_0 := Aside0.mk hl150_0
               clear hi150_0 hl150_0
               replace p150 := eq_true p150
               replace q150 := eq_true q150
               have p151 : 0 ≤ (x5_1 : Int) := of_decide_eq_true (by first | (with_reducible assumption) | assumption)
               have q151 : x5_1 < (l1.length : Int) := of_decide_eq_true (by first | (with_reducible assumption) | assumption)
               obtain ⟨ad151, A151_0, c151_0, e151, hx151_0, hl151_0, hi151_0⟩ := at_L5 HR1.out x5_1 p151 q151
               cases e151
               have HR151_0 := Aside0.mk hi151_0
               have HC151_0 := Aside0.mk hl151_0
               clear hi151_0 hl151_0
               replace p151 := eq_true p151
               replace q151 := eq_true q151
               go_wp2_with (first | (go_at_call 28; (with_reducible refine (tangramref01_SameInts.calls k1 _ _ (rd_L5 l0 x5_1) _ _ (rd_L5 l1 x5_1) false _ ?side1 ?side2 ?side3 ?side4 A7.out).mono ?_); (case side1 => repeat (first | exact HR150_0.out | (with_reducible refine Kd.C_alloc ?_ _) | (with_reducible refine Kd.C_drewN ?_ _) | (with_reducible refine Kd.C_drew ?_))); (case side2 => exact HC150_0.out); (case side3 => repeat (first | exact HR151_0.out | (with_reducible refine Kd.C_alloc ?_ _) | (with_reducible refine Kd.C_drewN ?_ _) | (with_reducible refine Kd.C_drew ?_))); (case side4 => exact HC151_0.out); rintro e w' ⟨rfl, ⟨nd, rfl⟩⟩; (try first | exact ⟨rfl, _, World.drewN_drewN _ _ _⟩ | exact ⟨rfl, _, Eq.trans (World.drewN_drewN _ _ _) (congrArg (World.drewN _) (Nat.add_assoc _ _ _))⟩)))
               repeat (go_quiet (first | (go_at_call 28; (with_reducible refine (tangramref01_SameInts.calls k1 _ _ (rd_L5 l0 x5_1) _ _ (rd_L5 l1 x5_1) false _ ?side1 ?side2 ?side3 ?side4 A7.out).mono ?_); (case side1 => repeat (first | exact HR150_0.out | (with_reducible refine Kd.C_alloc ?_ _) | (with_reducible refine Kd.C_drewN ?_ _) | (with_reducible refine Kd.C_drew ?_))); (case side2 => exact HC150_0.out); (case side3 => repeat (first | exact HR151_0.out | (with_reducible refine Kd.C_alloc ?_ _) | (with_reducible refine Kd.C_drewN ?_ _) | (with_reducible refine Kd.C_drew ?_))); (case side4 => exact HC151_0.out); rintro e w' ⟨rfl, ⟨nd, rfl⟩⟩; (try first | exact ⟨rfl, _, World.drewN_drewN _ _ _⟩ | exact ⟨rfl, _, Eq.trans (World.drewN_drewN _ _ _) (congrArg (World.drewN _) (Nat.add_assoc _ _ _))⟩))); try go_wp2_with (first | (go_at_call 28; (with_reducible refine (tangramref01_SameInts.calls k1 _ _ (rd_L5 l0 x5_1) _ _ (rd_L5 l1 x5_1) false _ ?side1 ?side2 ?side3 ?side4 A7.out).mono ?_); (case side1 => repeat (first | exact HR150_0.out | (with_reducible refine Kd.C_alloc ?_ _) | (with_reducible refine Kd.C_drewN ?_ _) | (with_reducible refine Kd.C_drew ?_))); (case side2 => exact HC150_0.out); (case side3 => repeat (first | exact HR151_0.out | (with_reducible refine Kd.C_alloc ?_ _) | (with_reducible refine Kd.C_drewN ?_ _) | (with_reducible refine Kd.C_drew ?_))); (case side4 => exact HC151_0.out); rintro e w' ⟨rfl, ⟨nd, rfl⟩⟩; (try first | exact ⟨rfl, _, World.drewN_drewN _ _ _⟩ | exact ⟨rfl, _, Eq.trans (World.drewN_drewN _ _ _) (congrArg (World.drewN _) (Nat.add_assoc _ _ _))⟩))))
               go_ret
               exact ⟨by first | rfl | (simp; done) | (simp [*]; done), by repeat (first | exact Drawn0.refl _ | apply Drawn0.step)⟩
           · rw [if_neg c6] at H
             exact absurd H (by simp)
         · rw [if_neg c5] at H
           exact absurd H (by simp)
       · rw [if_neg c4] at H
         have c4b0 : decide (x5_1 < (l0.length : Int)) = false := decide_eq_false c4
         clear c4
         obtain rfl := Option.some.inj H
         go_wp2
         repeat (go_quiet (fail); try go_wp2)
         go_ret
         exact ⟨by first | rfl | (simp; done) | (simp [*]; done), by repeat (first | exact Drawn0.refl _ | apply Drawn0.step)⟩
 · rw [if_neg c3] at H
   have c3b0 : ((l0.length : Int) == (l1.length : Int)) = false := beq_eq_false_iff_ne.mpr c3
   have c3b1 : ((l0.length : Int) != (l1.length : Int)) = true := bne_iff_ne.mpr c3
   have c3b2 : (l0.length == l1.length) = false := by first | simpa using c3 | (simp at c3 ⊢; omega)
   obtain rfl := Option.some.inj H
   go_enter Try.func22, Try.ntmps22
   go_wp2
   repeat (go_quiet (fail); try go_wp2)
   go_ret
   exact ⟨by first | rfl | (simp; done) | (simp [*]; done), by repeat (first | exact Drawn0.refl _ | apply Drawn0.step)⟩
end Go.Proofs.Ytoajoklpbfehiaa.GAll
namespace Go.Proofs.Ytoajoklpbfehiaa.PureL
open Go.RowKit Go.Proofs.YtoajoklpbfehiaaW.PrintWords Go.Proofs.YtoajoklpbfehiaaW.PrintLast Go.Proofs.YtoajoklpbfehiaaW.PrintMore Go.Proofs.Ytoajoklpbfehiaa.GAll
set_option linter.unusedVariables false
set_option linter.unusedSimpArgs false
theorem wadd {i n : Nat} (h : i < n) (hn : n ≤ 9223372036854775807) : wrap64 ((i : Int) + 1) = ((i + 1 : Nat) : Int) := by rw [IntWalk.wrap64_in _ (by omega)]; omega
theorem ints_loop (xs : List Int) (hl : xs.length ≤ 9223372036854775807) (d : Nat) : ∀ i : Nat, i + d = xs.length → Ev (fun k => tangramref01_SameInts.l0 k xs xs (i : Int)) true := by
 induction d with
 | zero =>
   intro i hi
   refine Ev.step (f := fun _ => some true) (fun k => ?_) (Ev.now _)
   simp only [tangramref01_SameInts.l0]
   rw [if_neg (by omega)]
 | succ d ih =>
   intro i hi
   refine Ev.step (fun k => ?_) (ih (i + 1) (by omega))
   simp only [tangramref01_SameInts.l0]
   rw [if_pos (by omega), if_pos (by omega), if_pos (by omega), if_pos trivial, wadd (n := xs.length) (by omega) hl]
theorem ints_same (xs : List Int) (hl : xs.length ≤ 9223372036854775807) : Ev (fun k => tangramref01_SameInts.f k xs xs) true := by
 refine Ev.congr (fun k => ?_) (ints_loop xs hl xs.length 0 (by omega))
 simp only [tangramref01_SameInts.f]
 rw [if_pos trivial]
 rfl
theorem lists_loop (xs : List (List Int)) (hl : xs.length ≤ 9223372036854775807) (hi : ∀ x ∈ xs, x.length ≤ 9223372036854775807) (d : Nat) : ∀ i : Nat, i + d = xs.length → Ev (fun k => tangramref01_SameLists.l0 k xs xs (i : Int)) true := by
 induction d with
 | zero =>
   intro i hi
   refine Ev.step (f := fun _ => some true) (fun k => ?_) (Ev.now _)
   simp only [tangramref01_SameLists.l0]
   rw [if_neg (by omega)]
 | succ d ih =>
   intro i hd
   refine Ev.step (f := fun k => (tangramref01_SameInts.f k (xs.getD i []) (xs.getD i [])).bind fun t => if t = true then tangramref01_SameLists.l0 k xs xs ((i + 1 : Nat) : Int) else some false) (fun k => ?_) (Ev.bind (ints_same _ (hi _ ?_)) ?_)
   · simp only [tangramref01_SameLists.l0]
     rw [if_pos (by omega), if_pos (by omega), if_pos (by omega), wadd (n := xs.length) (by omega) hl]
     rfl
   · rw [List.getD_eq_getElem?_getD, List.getElem?_eq_getElem (by omega)]
     exact List.getElem_mem _
   · simp only [if_true]
     exact ih (i + 1) (by omega)
theorem lists_same (xs : List (List Int)) (hl : xs.length ≤ 9223372036854775807) (hi : ∀ x ∈ xs, x.length ≤ 9223372036854775807) : ∃ k, tangramref01_SameLists.f k xs xs = some true := by
 refine Ev.rounds (Ev.congr (fun k => ?_) (lists_loop xs hl hi xs.length 0 (by omega)))
 simp only [tangramref01_SameLists.f]
 rw [if_pos trivial]
 rfl
end Go.Proofs.Ytoajoklpbfehiaa.PureL
namespace Go.Proofs.Ytoajoklpbfehiaa.Sets
open Go.RowKit Go.Proofs.YtoajoklpbfehiaaW.PrintWords Go.Proofs.YtoajoklpbfehiaaW.PrintLast Go.Proofs.YtoajoklpbfehiaaW.PrintMore
set_option linter.unusedVariables false
set_option linter.unusedSimpArgs false
def ints (l : List Nat) : List Int := l.map fun (x : Nat) => (x : Int)
theorem iv_encs (l : List Nat) : iv l = encs (Value.int .i64) (ints l) := by simp [iv, encs, ints, Function.comp_def]
theorem GRows.rows {w : World} {B bo base : Nat} {vs : List Value} {gs : List (List Nat)} {ok : Nat → Prop} (h : GRows w B bo vs gs) (hb : base ≤ bo) (hl : gs.length ≤ 9223372036854775807) (hok : ∀ k, base ≤ k → ok k) :
   Kd.R (Kd.slice 3 (Kd.int .i64)) 34 w base ok (.slice (some ⟨bo, 0, none⟩) gs.length gs.length) (gs.map ints) := by
 have hlt := h.lt
 have hsz : (Kd.slice 3 (Kd.int .i64)).sz = 1 := rfl
 refine ⟨fun k hk => hok k (by have : bo = k := by simpa [Value.ownBlock] using hk
                               omega), vs, ⟨by simp [h.len, hsz], .inr ⟨bo, gs.length, vs.toArray, by simp, hb, h.out, by simp, by unfold maxLen; simpa using hl, by simp [h.len, hsz], ?_⟩⟩, by simp [h.len, hsz], fun j p hj => ?_⟩
 · simp [List.take_of_length_le, h.len, hsz]
 · rw [List.getElem?_map] at hj
   obtain ⟨g, hg, rfl⟩ := Option.map_eq_some_iff.1 hj
   have hj2 : j < gs.length := (List.getElem?_eq_some_iff.1 hg).1
   have e1 : gl gs j = g := by unfold gl; rw [List.getD_eq_getElem?_getD, hg]; rfl
   have e2 : (vs.drop (j * 1)).take 1 = [va vs j] := by
     rw [Nat.mul_one, List.drop_eq_getElem_cons (by rw [h.len]; exact hj2), List.take_succ_cons, List.take_zero]
     simp [va, List.getD_eq_getElem?_getD, h.len, hj2]
   refine ⟨va vs j, e2, Kd.R_of_own ?_ (fun k hk => ?_)⟩
   · have := own_weaken (h.own j hj2) (show base ≤ B by omega)
     rw [iv_encs, e1] at this
     rw [show (ints g).length = g.length by simp [ints]]
     exact this
   · have := own_lt (h.own j hj2) hk
     refine ⟨hok k (by omega), fun e => ?_⟩
     have : k = bo := by simpa [Value.ownBlock] using e
     omega
def Sub (n : Nat) (es : List (Int × Int)) (m : List Nat) : Prop := ∃ E, Part n E m ∧ ∀ a b, E a b → Conn (EP n es) a b
theorem Sub.start (n : Nat) (es : List (Int × Int)) : Sub n es (List.range n) := ⟨_, Part.range n, fun _ _ h => h.elim⟩
def Cov (n : Nat) (es : List (Int × Int)) (i : Nat) (m : List Nat) : Prop := ∃ E, Part n E m ∧ (∀ a b, E a b → Conn (EP n es) a b) ∧ ∀ j, i ≤ j → j < es.length → ∀ a b : Nat, a < n → b < n → pe es j = ((a : Int), (b : Int)) → Conn E a b
theorem mem_pe {es : List (Int × Int)} {x : Int × Int} (h : x ∈ es) : ∃ j, j < es.length ∧ pe es j = x := by
 obtain ⟨j, hj, rfl⟩ := List.mem_iff_getElem.1 h
 exact ⟨j, hj, by unfold pe; rw [List.getD_eq_getElem?_getD, List.getElem?_eq_getElem hj]; rfl⟩
theorem Cov.all {n : Nat} {es : List (Int × Int)} {m : List Nat} (h : Cov n es 0 m) : m = joinAll (List.range n) es := by
 obtain ⟨E, h1, h2, h3⟩ := h
 refine h1.unique (joinAll_part n es) h2 ?_
 rintro a b ⟨ha, hb, hm⟩
 obtain ⟨j, hj, hp⟩ := mem_pe hm
 exact h3 j (by omega) hj a b ha hb hp
def yesTo (m : List Nat) (es : List (Int × Int)) : Nat → Nat
 | 0 => 0
 | k + 1 => yesTo m es k + if (joinOf (joinAll m (es.take k)) (pe es k).1 (pe es k).2).2 = true then 1 else 0
structure Two (w0 w : World) (p bP bS q bQ bT : Nat) (ms mt : List Nat) : Prop where
 s : At w p bP bS ms
 t : At w q bQ bT mt
 lo : w0.heap.size ≤ p ∧ w0.heap.size ≤ bP ∧ w0.heap.size ≤ bS ∧ w0.heap.size ≤ q ∧ w0.heap.size ≤ bQ ∧ w0.heap.size ≤ bT
 ap : p < q ∧ p < bQ ∧ p < bT ∧ bP < q ∧ bP < bQ ∧ bP < bT ∧ bS < q ∧ bS < bQ ∧ bS < bT
 old : Below w0.heap.size w0 w
def Own2 (p bP bS q bQ bT : Nat) (k : Nat) : Prop := Own p bP bS k ∨ Own q bQ bT k
theorem At.frame {w w' : World} {p bP bS : Nat} {m : List Nat} {S : Nat → Prop} (h : At w p bP bS m) (f : Frame S w w') (hs : ∀ k, Own p bP bS k → ¬ S k) : At w' p bP bS m := by
 obtain ⟨P, S', h⟩ := h
 exact ⟨P, S', f.blk h.obj (hs _ (.inl rfl)), f.blk h.par (hs _ (.inr (.inl rfl))), f.blk h.siz (hs _ (.inr (.inr rfl))), h.ne1, h.ne2, h.ne3, h.small, h.rep, h.sized⟩
theorem At.hi {w : World} {p bP bS : Nat} {m : List Nat} (h : At w p bP bS m) : p < w.heap.size ∧ bP < w.heap.size ∧ bS < w.heap.size := by
 obtain ⟨P, S', h⟩ := h
 exact ⟨blk_lt h.obj, blk_lt h.par, blk_lt h.siz⟩
section
variable {w0 w w' : World} {p bP bS q bQ bT : Nat} {ms mt : List Nat}
theorem Two.alloc (h : Two w0 w p bP bS q bQ bT ms mt) (o : Obj) : Two w0 (w.alloc o) p bP bS q bQ bT ms mt := by
 have f : Frame (fun _ => False) w (w.alloc o) := (Frame.refl _ w).alloc o
 exact ⟨h.s.frame f (fun _ _ e => e), h.t.frame f (fun _ _ e => e), h.lo, h.ap, h.old.alloc (by exact h.old.size) o⟩
theorem Two.put (h : Two w0 w p bP bS q bQ bT ms mt) {b i : Nat} (u : Value) (hb : w0.heap.size ≤ b) (hn : ¬ Own2 p bP bS q bQ bT b) : Two w0 (w.setCell ⟨b, i, none⟩ u) p bP bS q bQ bT ms mt := by
 have f : Frame (· = b) w (w.setCell ⟨b, i, none⟩ u) := Frame.setCell (S := (· = b)) (p := ⟨b, i, none⟩) (Frame.refl _ w) rfl u
 exact ⟨h.s.frame f (fun k hk e => hn (.inl (e ▸ hk))), h.t.frame f (fun k hk e => hn (.inr (e ▸ hk))), h.lo, h.ap, h.old.trans (f.below h.old.size (fun k hk => by omega))⟩
theorem Two.drawn (h : Two w0 w p bP bS q bQ bT ms mt) (n : Nat) : Two w0 (w.drewN n) p bP bS q bQ bT ms mt := by
 have f : Frame (fun _ => False) w (w.drewN n) := (Frame.refl _ w).drewN n
 exact ⟨h.s.frame f (fun _ _ e => e), h.t.frame f (fun _ _ e => e), h.lo, h.ap, h.old.trans (f.below h.old.size (fun k hk => hk.elim))⟩
theorem Two.drew (h : Two w0 w p bP bS q bQ bT ms mt) : Two w0 w.drew p bP bS q bQ bT ms mt := by
 have f : Frame (fun _ => False) w w.drew := (Frame.refl _ w).drew
 exact ⟨h.s.frame f (fun _ _ e => e), h.t.frame f (fun _ _ e => e), h.lo, h.ap, h.old.trans (f.below h.old.size (fun k hk => hk.elim))⟩
theorem Two.below (h : Two w0 w p bP bS q bQ bT ms mt) (hb : Below w.heap.size w w') : Two w0 w' p bP bS q bQ bT ms mt := by
 have h1 := h.s.hi
 have h2 := h.t.hi
 have f : Frame (fun k => w.heap.size ≤ k) w w' := ⟨hb.os, hb.tape, hb.output, hb.size, fun i hi _ => hb.block i hi⟩
 exact ⟨h.s.frame f (fun k hk e => by unfold Own at hk; omega), h.t.frame f (fun k hk e => by unfold Own at hk; omega), h.lo, h.ap, h.old.trans (hb.mono h.old.size)⟩
theorem groupsOf_length (m : List Nat) : (groupsOf m).length = (numTo m m.length).2 := grpTo_length _ _ _
theorem groupsOf_le {m : List Nat} {x : List Int} (h : x ∈ (groupsOf m).map ints) : x.length ≤ m.length := by
 obtain ⟨g, hg, rfl⟩ := List.mem_map.1 h
 obtain ⟨j, hj, rfl⟩ := List.mem_iff_getElem.1 hg
 have := grpTo_le (numTo m m.length).1 (numTo m m.length).2 m.length j
 unfold ints
 rw [List.length_map]
 have e : gl (groupsOf m) j = (groupsOf m)[j] := by unfold gl; rw [List.getD_eq_getElem?_getD, List.getElem?_eq_getElem hj]; rfl
 rw [← e]
 exact this
end
end Go.Proofs.Ytoajoklpbfehiaa.Sets
namespace Go.Proofs.Ytoajoklpbfehiaa.Mark
open Go.RowKit Go.Proofs.YtoajoklpbfehiaaW.PrintWords Go.Proofs.YtoajoklpbfehiaaW.PrintLast Go.Proofs.YtoajoklpbfehiaaW.PrintMore Go.Proofs.Ytoajoklpbfehiaa.Mem
set_option linter.unusedVariables false
set_option linter.unusedSimpArgs false
def Mine (A : Option Addr) (k : Nat) : Prop := ∃ a, A = some a ∧ k = a.block
end Go.Proofs.Ytoajoklpbfehiaa.Mark
namespace Go.Proofs.Ytoajoklpbfehiaa.Own
open Go.RowKit Go.Proofs.YtoajoklpbfehiaaW.PrintWords Go.Proofs.YtoajoklpbfehiaaW.PrintLast Go.Proofs.YtoajoklpbfehiaaW.PrintMore Go.Proofs.Ytoajoklpbfehiaa.Mem Go.Proofs.Ytoajoklpbfehiaa.Mark
set_option linter.unusedVariables false
set_option linter.unusedSimpArgs false
def tb (T : List (Nat × Nat)) (j : Nat) : Nat × Nat := T.getD j (0, 0)
theorem tb_last (T : List (Nat × Nat)) (p : Nat × Nat) : tb (T ++ [p]) T.length = p := by unfold tb; simp [List.getD_eq_getElem?_getD]
theorem tb_old (T : List (Nat × Nat)) (p : Nat × Nat) {j : Nat} (h : j < T.length) : tb (T ++ [p]) j = tb T j := by unfold tb; simp [List.getD_eq_getElem?_getD, List.getElem?_append_left h]
def sl (T : List (Nat × Nat)) (j n : Nat) : Value := .slice (some ⟨(tb T j).1, 0, none⟩) n (tb T j).2
def vals (r : List (List Int)) (T : List (Nat × Nat)) (d : Nat) : List (List Value) := (List.range T.length).map fun j => [sl T j ((gl r j).length + d)]
theorem vals_length (r : List (List Int)) (T : List (Nat × Nat)) (d : Nat) : (vals r T d).length = T.length := by unfold vals; simp
structure Tab (w : World) (base : Nat) (r : List (List Int)) (T : List (Nat × Nat)) : Prop where
 rows : ∀ j, j < T.length → Kd.R (Kd.int .i64) 3 w base (fun _ => True) (sl T j ((gl r j).length + 2)) (gl r j ++ [-7, -8])
 rise : ∀ i j, i < j → j < T.length → (tb T i).1 < (tb T j).1
theorem Tab.nil (w : World) (base : Nat) (r : List (List Int)) : Tab w base r [] := ⟨fun j h => absurd h (by simp), fun i j _ h => absurd h (by simp)⟩
theorem Tab.lt {w : World} {base : Nat} {r : List (List Int)} {T : List (Nat × Nat)} (h : Tab w base r T) {j : Nat} (hj : j < T.length) : base ≤ (tb T j).1 ∧ (tb T j).1 < w.heap.size := by
 have a := h.rows j hj
 exact ⟨Kd.R_base a _ (by simp [sl, Value.ownBlock]), Kd.R_lt a _ (by simp [sl, Value.ownBlock])⟩
theorem Tab.below {w w1 : World} {base : Nat} {r : List (List Int)} {T : List (Nat × Nat)} (h : Tab w base r T) (hb : Below w.heap.size w w1) : Tab w1 base r T :=
 ⟨fun j hj => Kd.R_below (h.rows j hj) hb, h.rise⟩
theorem Tab.grown {w w1 : World} {base : Nat} {r : List (List Int)} {T : List (Nat × Nat)} (h : Tab w base r T) {v : Value} (hty : ∀ k, v.ownBlock = some k → ∃ cells, w.heap[k]? = some (.cells cells 34 (0, 0))) (hg : w.grownBy w1 v.ownBlock) : Tab w1 base r T :=
 ⟨fun j hj => Kd.R_over' (h.rows j hj) hty (by decide) hg, h.rise⟩
theorem Tab.snoc {w : World} {base b c N : Nat} {r : List (List Int)} {T : List (Nat × Nat)} (h : Tab w base r T) (hN : ∀ j, j < T.length → (tb T j).1 < N) (hb : N ≤ b) (hR : Kd.R (Kd.int .i64) 3 w base (fun _ => True) (.slice (some ⟨b, 0, none⟩) ((gl r T.length).length + 2) c) (gl r T.length ++ [-7, -8])) : Tab w base r (T ++ [(b, c)]) := by
 refine ⟨fun j hj => ?_, fun i j hij hj => ?_⟩
 · rw [List.length_append, List.length_singleton] at hj
   rcases Nat.lt_succ_iff_lt_or_eq.1 hj with g | rfl
   · have := h.rows j g
     unfold sl at this ⊢
     rw [tb_old _ _ g]
     exact this
   · unfold sl
     rw [tb_last]
     exact hR
 · rw [List.length_append, List.length_singleton] at hj
   rcases Nat.lt_succ_iff_lt_or_eq.1 hj with g | rfl
   · rw [tb_old _ _ g, tb_old _ _ (by omega)]
     exact h.rise i j hij g
   · rw [tb_last, tb_old _ _ hij]
     have := hN i hij
     show (tb T i).1 < b
     omega
theorem Tab.reads {w : World} {base : Nat} {r : List (List Int)} {T : List (Nat × Nat)} (h : Tab w base r T) (hl : T.length = r.length) {A : Option Addr} {c : Nat} {ok : Nat → Prop} (hR : Kd.R (Kd.raw 1) 34 w base ok (.slice A T.length c) (vals r T 0)) : Kd.C KR w A r.length r ∧ r.length ≤ c := by
 obtain ⟨e1, e2, hC⟩ := Kd.R_reads' hR
 rw [vals_length] at hC
 rw [hl] at hC e2
 refine ⟨⟨rfl, hC.2.1, fun hp => ?_⟩, e2⟩
 obtain ⟨ad, e3, h3⟩ := hC.2.2 hp
 refine ⟨ad, e3, fun j p hj => ?_⟩
 have hjl : j < r.length := (List.getElem?_eq_some_iff.1 hj).1
 obtain rfl : gl r j = p := by unfold gl; rw [List.getD_eq_getElem?_getD, hj]; rfl
 have hv : (vals r T 0)[j]? = some [sl T j ((gl r j).length + 0)] := by
   unfold vals
   rw [List.getElem?_map, List.getElem?_range (by omega)]; rfl
 obtain ⟨cs, hcs, hK, hcell⟩ := h3 j _ hv
 obtain ⟨rfl, _, _⟩ := hK
 have hrow := h.rows j (by omega)
 obtain ⟨f1, f2, f3⟩ := Kd.R_reads' hrow
 refine ⟨_, rfl, ⟨some ⟨(tb T j).1, 0, none⟩, (tb T j).2, rfl, by omega, ?_⟩, hcell⟩
 have hx : (gl r j ++ [-7, -8]).length = (gl r j).length + 2 := by simp
 have := Kd.C_take (m := (gl r j).length) f3 (by omega)
 rw [List.take_left] at this
 exact this
structure Lst (w : World) (lo hi : Nat) (A : Option Addr) (c : Nat) (xs : List Int) : Prop where
 R : Kd.R (Kd.int .i64) 3 w lo (fun k => lo ≤ k ∧ k < hi) (.slice A xs.length c) xs
theorem Lst.of {w : World} {lo : Nat} {A : Option Addr} {c : Nat} {xs : List Int} {ok : Nat → Prop} (h : Kd.R (Kd.int .i64) 3 w lo ok (.slice A xs.length c) xs) : Lst w lo w.heap.size A c xs :=
 ⟨Kd.R_mono (Kd.R_bound h) (fun k hk => ⟨hk.2.1, hk.2.2.1⟩)⟩
section
variable {w w' : World} {lo hi : Nat} {A : Option Addr} {c : Nat} {xs : List Int}
theorem Lst.below (h : Lst w lo hi A c xs) (hb : Below w.heap.size w w') : Lst w' lo hi A c xs := ⟨Kd.R_below h.R hb⟩
theorem Lst.frame {P : Nat → Prop} (h : Lst w lo hi A c xs) (f : Mem.Frame P w w') (hP : ∀ k, lo ≤ k → k < hi → ¬ P k) : Lst w' lo hi A c xs := ⟨Kd.R_step h.R (fun k hk hlt => f.block k hlt (hP k hk.1 hk.2))⟩
theorem Lst.reads (h : Lst w lo hi A c xs) : Kd.C (Kd.int .i64) w A xs.length xs ∧ xs.length ≤ c := ⟨(Kd.R_reads' h.R).2.2, (Kd.R_reads' h.R).2.1⟩
theorem Lst.own (h : Lst w lo hi A c xs) : Kd.R (Kd.int .i64) 3 w lo (fun _ => True) (.slice A xs.length c) xs := Kd.R_mono h.R (fun _ _ => trivial)
end
def InT (T : List (Nat × Nat)) (k : Nat) : Prop := ∃ j, j < T.length ∧ k = (tb T j).1
def RowsT (w : World) (base : Nat) (r : List (List Int)) (T : List (Nat × Nat)) : Prop := ∀ j, j < T.length → ∃ ys : List Int, ys.length = (gl r j).length + 2 ∧ Kd.R (Kd.int .i64) 3 w base (fun k => k = (tb T j).1) (sl T j ((gl r j).length + 2)) ys
theorem RowsT.frame {P : Nat → Prop} {w w' : World} {base : Nat} {r : List (List Int)} {T : List (Nat × Nat)} (h : RowsT w base r T) (f : Mem.Frame P w w') (hP : ∀ k, InT T k → ¬ P k) : RowsT w' base r T := fun j hj => by
 obtain ⟨ys, h1, h2⟩ := h j hj
 exact ⟨ys, h1, Kd.R_step h2 (fun k hk hlt => f.block k hlt (hP k ⟨j, hj, hk⟩))⟩
theorem RowsT.put {w : World} {base : Nat} {r : List (List Int)} {T : List (Nat × Nat)} (h : RowsT w base r T) (hd : ∀ i j, i < j → j < T.length → (tb T i).1 < (tb T j).1) {j i : Nat} (hj : j < T.length) (hi : i < (gl r j).length + 2) (x : Int) :
   RowsT (w.setCell ⟨(tb T j).1, i, none⟩ (.int .i64 x)) base r T ∧ (∃ y, w.cell? ⟨(tb T j).1, i, none⟩ = some (.int .i64 y)) ∧ w.frozen? ⟨(tb T j).1, i, none⟩ = false := by
 obtain ⟨ys, h1, h2⟩ := h j hj
 have h2' := h2
 unfold sl at h2'
 rw [← h1] at h2'
 have h3 := Kd.R_put h2' (i : Int) x
 rw [Int.toNat_natCast] at h3
 obtain ⟨ad, eD, z⟩ := Kd.at_int (Kd.R_reads' h2').2.2 (i : Int) (by omega) (by omega)
 injection eD with eD
 subst eD
 rw [Int.toNat_natCast, add_plain] at z
 obtain ⟨g, cap, e1, _, _, cells, hcell⟩ := Kd.R_form h2' (by omega)
 have e2 : (tb T j).1 = g := by
   injection e1 with e1 _ _
   injection e1 with e1
   injection e1
 refine ⟨fun q hq => ?_, ⟨_, z⟩, heap_free (by rw [e2]; exact hcell) i⟩
 by_cases e : q = j
 · subst e
   refine ⟨ys.set i x, by rw [List.length_set]; exact h1, ?_⟩
   have h4 := h3.1
   rw [h1] at h4
   exact h4
 · obtain ⟨zs, g1, g2⟩ := h q hq
   refine ⟨zs, g1, Kd.R_far (p := ⟨(tb T j).1, i, none⟩) g2 (fun k hk => ?_) _⟩
   show k ≠ (tb T j).1
   rw [hk]
   rcases Nat.lt_or_gt_of_ne e with c | c
   · have := hd q j c hj; omega
   · have := hd j q c hq; omega
theorem Tab.apart {w : World} {base : Nat} {r : List (List Int)} {T : List (Nat × Nat)} {ok : Nat → Prop} {v : Value} {xs : List (List Value)} (h : Tab w base r T) (hR : Kd.R (Kd.raw 1) 34 w base ok v xs) : Kd.R (Kd.raw 1) 34 w base (fun k => base ≤ k ∧ k < w.heap.size ∧ ¬ InT T k) v xs := by
 refine Kd.R_mono (Kd.R_bound hR) (fun k hk => ⟨hk.2.1, hk.2.2.1, fun ⟨j, hj, e⟩ => ?_⟩)
 obtain ⟨_, _, _, q, hq, cells, hc⟩ := hk
 obtain ⟨c2, hc2⟩ := Kd.R_typed (h.rows j hj) k (by rw [e]; rfl)
 rw [hc] at hc2
 injection hc2 with hc2
 injection hc2 with _ h3 _
 have hq2 : q = 34 := by simpa [Kd.raw] using hq
 rw [hq2] at h3
 exact absurd h3 (by decide)
end Go.Proofs.Ytoajoklpbfehiaa.Own
namespace Go.Proofs.Ytoajoklpbfehiaa.Open
open Go.RowKit Go.Proofs.YtoajoklpbfehiaaW.PrintWords Go.Proofs.YtoajoklpbfehiaaW.PrintLast Go.Proofs.YtoajoklpbfehiaaW.PrintMore Go.ChangeShapes Go.WideShapes Go.Deep
set_option linter.unusedVariables false
set_option linter.unusedSimpArgs false
def I64 (n : Int) : Prop := -9223372036854775808 ≤ n ∧ n ≤ 9223372036854775807
def Opens {α : Type} (P : Program) (t : TypeId) (d : Kd α) (good : α → Prop) : Prop :=
 ∀ {H : Type} (enc : TypeId × Value → H) (w : World) (fuel : Nat) (cs : List Value) (x : DataW H × List MemPlace),
   DataW.trod enc P w 0 (fun _ => true) true fuel t cs = some x → (x.1.weights P t).all (· ≤ reachBytes) = true → ∃ v, d.K w v cs ∧ good v
section
variable {P : Program} {α β : Type}
theorem opens_int {t : TypeId} (ht : P.underlying t = some (.int .i64)) : Opens P t (Kd.int .i64) I64 := by
 intro H enc w fuel cs x h _
 obtain ⟨n, rfl, _, hw⟩ := DataW.trod_int ht h
 refine ⟨n, rfl, ?_⟩
 have hmin : IntKind.i64.min = -9223372036854775808 := rfl
 have hmax : IntKind.i64.max = 9223372036854775807 := rfl
 simp only [Lit.wf, Bool.and_eq_true, decide_eq_true_eq] at hw
 unfold I64; omega
theorem weightsAll_mem {H : Type} {e : TypeId} {l : List (DataW H)} (h : (DataW.weightsAll P e l).all (· ≤ reachBytes) = true) {d : DataW H} (hd : d ∈ l) : (d.weights P e).all (· ≤ reachBytes) = true := by
 induction l with
 | nil => cases hd
 | cons a l ih =>
   unfold DataW.weightsAll at h
   rw [List.all_append, Bool.and_eq_true] at h
   rcases List.mem_cons.1 hd with rfl | hd
   · exact h.1
   · exact ih h.2 hd
theorem opens_slice {t e : TypeId} {d : Kd α} {good : α → Prop} {B : Nat} (ht : P.underlying t = some (.slice e)) (hc : P.cellsOf e = d.sz) (hB : P.bytesOf e = B) (ho : Opens P e d good) (dflt : α) :
   Opens P t (Kd.slice e d) (fun xs => xs.length * B ≤ 140737488351232 ∧ ∀ x ∈ xs, good x) := by
 intro H enc w fuel cs x h hwt
 rcases open_slice ht h with ⟨rfl, rfl⟩ | ⟨a, len, cap, m, n, D, Pl, rfl, hb, hl, hm, hmm, rfl, hx⟩
 · exact ⟨[], ⟨none, 0, rfl, Nat.le_refl _, rfl, by simp, fun h => absurd h (by simp)⟩, by simp, by simp⟩
 · simp only [if_true] at hmm
   subst hmm
   unfold DataW.weights at hwt
   rw [ht] at hwt
   simp only [List.all_cons, List.all_append, Bool.and_eq_true, decide_eq_true_eq, List.length_map, List.length_range, hB] at hwt
   obtain ⟨hw1, hw2, _⟩ := hwt
   have each : ∀ i, i < len → ∃ v : α × List Value, v.2.length = d.sz ∧ d.K w v.1 v.2 ∧ good v.1 ∧ ∀ k u, v.2[k]? = some u → w.cell? (a.add (i * d.sz + k)) = some u := by
     intro i hi
     obtain ⟨cs', h1, h2⟩ := hx i (by omega)
     rw [hc] at h1
     obtain ⟨_, hlen, hcell⟩ := World.cells?_some h1
     obtain ⟨v, hv, hg⟩ := ho enc w n cs' _ h2 (weightsAll_mem hw2 (List.mem_map.2 ⟨i, List.mem_range.2 hi, rfl⟩))
     refine ⟨(v, cs'), hlen, hv, hg, fun k u hk => ?_⟩
     have hk2 : k < d.sz := by
       have hk3 : k < cs'.length := (List.getElem?_eq_some_iff.1 hk).1
       omega
     have := hcell k hk2
     rw [Go.Deep.add_add] at this
     rw [this]; exact hk
   haveI : Inhabited (α × List Value) := ⟨(dflt, [])⟩
   obtain ⟨q, hq⟩ := choose_lt each
   have hlen : ((List.range len).map fun i => (q i).1).length = len := by simp
   have hget : ∀ j p, ((List.range len).map fun i => (q i).1)[j]? = some p → j < len ∧ p = (q j).1 := by
     intro j p hj
     rw [List.getElem?_map] at hj
     by_cases hjl : j < len
     · rw [List.getElem?_range hjl] at hj
       exact ⟨hjl, by simpa using hj.symm⟩
     · rw [List.getElem?_eq_none (by simp; omega)] at hj; simp at hj
   refine ⟨(List.range len).map fun i => (q i).1, ⟨some a, m, by rw [hlen], by rw [hlen]; exact hl, by rw [hlen], ?_, fun _ => ⟨a, rfl, fun j p hj => ?_⟩⟩, ?_, ?_⟩
   · rw [hlen]; unfold maxLen at hm; omega
   · obtain ⟨hjl, rfl⟩ := hget j p hj
     exact ⟨(q j).2, (hq j hjl).1, (hq j hjl).2.1, (hq j hjl).2.2.2⟩
   · rw [hlen]
     have h5 : len * B ≤ (len + (m - len)) * B := Nat.mul_le_mul_right _ (by omega)
     have h6 : reachBytes = 140737488351232 := rfl
     omega
   · intro v hv
     obtain ⟨i, hi, rfl⟩ := List.mem_map.1 hv
     exact (hq i (List.mem_range.1 hi)).2.2.1
theorem opens_two {t : TypeId} {f0 f1 : Field} {a : Kd α} {b : Kd β} {ga : α → Prop} {gb : β → Prop} (ht : P.underlying t = some (.struct #[f0, f1])) (h0 : Opens P f0.type a ga) (h1 : Opens P f1.type b gb)
   (o0 : f0.offset = 0) (o1 : f1.offset = a.sz) (c0 : P.cellsOf f0.type = a.sz) (c1 : P.cellsOf f1.type = b.sz) (ct : P.cellsOf t = a.sz + b.sz) : Opens P t (Kd.pair a b) (fun x => ga x.1 ∧ gb x.2) := by
 intro H enc w fuel cs x h hwt
 obtain ⟨xs, n, _, rfl, hcl, hxl, hf⟩ := DataW.trod_struct ht h
 match xs, hxl with
 | [y0, y1], _ =>
   have g0 := hf 0 f0 rfl
   have g1 := hf 1 f1 rfl
   rw [o0, c0] at g0
   rw [o1, c1] at g1
   unfold DataW.weights at hwt
   rw [ht] at hwt
   simp only [List.map_cons, List.map_nil, DataW.weightsEach, List.all_append, Bool.and_eq_true] at hwt
   obtain ⟨hw0, hw1, _⟩ := hwt
   rw [List.drop_zero] at g0
   obtain ⟨v0, k0, q0⟩ := h0 enc w n _ y0 g0 hw0
   obtain ⟨v1, k1, q1⟩ := h1 enc w n _ y1 g1 hw1
   refine ⟨(v0, v1), ⟨_, _, ?_, k0, k1⟩, q0, q1⟩
   rw [List.take_of_length_le (l := cs.drop a.sz) (by rw [List.length_drop]; omega), List.take_append_drop]
theorem opens_iso {t : TypeId} {d : Kd α} {good : α → Prop} {f : β → α} (g : α → β) (hg : ∀ x, f (g x) = x) (h : Opens P t d good) : Opens P t (Kd.iso d f) (fun y => good (f y)) := by
 intro H enc w fuel cs x hx hw
 obtain ⟨v, k, q⟩ := h enc w fuel cs x hx hw
 exact ⟨g v, by show d.K w (f (g v)) cs; rw [hg]; exact k, by show good (f (g v)); rw [hg]; exact q⟩
theorem open_arg {H : Type} {enc : TypeId × Value → H} {w : World} {t : TypeId} {d : Kd α} {good : α → Prop} {v : Value} {dd : DataW H} {ps : List MemPlace} (ho : Opens P t d good) (h : DataW.Trod enc P w 0 (fun _ => true) true t v dd ps)
   (hw : (dd.weights P t).all (· ≤ reachBytes) = true) : ∃ x, d.K w x v.cells.toList ∧ good x := by
 obtain ⟨fuel, hf⟩ := h
 exact ho enc w fuel _ _ hf hw
theorem weight_at {H : Type} {ts : List TypeId} {ds : List (DataW H)} (h : (DataW.weightsEach P ts ds).all (· ≤ reachBytes) = true) : ∀ {j : Nat} {t : TypeId} {d : DataW H}, ts[j]? = some t → ds[j]? = some d → (d.weights P t).all (· ≤ reachBytes) = true := by
 induction ts generalizing ds with
 | nil => intro j t d ht; simp at ht
 | cons a ts ih =>
   cases ds with
   | nil => intro j t d _ hd; simp at hd
   | cons b ds =>
     unfold DataW.weightsEach at h
     rw [List.all_append, Bool.and_eq_true] at h
     intro j t d ht hd
     cases j with
     | zero =>
       obtain rfl : a = t := by simpa using ht
       obtain rfl : b = d := by simpa using hd
       exact h.1
     | succ j => exact ih h.2 (by simpa using ht) (by simpa using hd)
theorem of_slice {w : World} {e : Nat} {d : Kd α} {xs : List α} {A : Option Addr} {n c : Nat} (h : (Kd.slice e d).K w xs [.slice A n c]) : n = xs.length ∧ xs.length ≤ c ∧ d.C w A xs.length xs := by
 obtain ⟨A', c', he, hl, hc⟩ := h
 simp only [List.cons.injEq, Value.slice.injEq, and_true] at he
 obtain ⟨rfl, rfl, rfl⟩ := he
 exact ⟨rfl, hl, hc⟩
end
end Go.Proofs.Ytoajoklpbfehiaa.Open
namespace Go.Proofs.Ytoajoklpbfehiaa.GAll
open Go.RowKit Go.Proofs.YtoajoklpbfehiaaW.PrintWords Go.Proofs.YtoajoklpbfehiaaW.PrintLast Go.Proofs.YtoajoklpbfehiaaW.PrintMore
attribute [local go_sem] max2_int min2_int max_two min_two max_three min_three max_four min_four   -- for this text's walks alone
set_option linter.unusedVariables false
set_option linter.unusedSimpArgs false
theorem simple_Valid.pairs {w : World} {A : Option Addr} {l : List S33} (h : Kd.C k33 w A l.length l) : Mem.Pairs w A (l.map fun x => (x.f0, x.f1)) := by
 intro i hi
 rw [List.length_map] at hi
 obtain ⟨ad, e, h1, h2⟩ := at_T33 h (i : Int) (by omega) (by omega)
 have e2 : Mem.pe (l.map fun x => (x.f0, x.f1)) i = ((rd_T33 l (i : Int)).f0, (rd_T33 l (i : Int)).f1) := by
   unfold Mem.pe rd_T33
   simp [List.getD_eq_getElem?_getD, hi]
 rw [e2]
 exact ⟨ad, e, h1, h2⟩
def simple_Valid.f (k : Nat) (a0_0 : Int) (l0_1 : List S33) : Option Bool := some (ValH.goodB a0_0 (l0_1.map fun x => (x.f0, x.f1)))
theorem simple_Valid.mono : ∀ a0 a1 k, LeO (simple_Valid.f k a0 a1) (simple_Valid.f (k + 1) a0 a1) := fun _ _ _ => LeO.refl _
theorem simple_Valid.calls (k : Nat) (a0_0 : Int) (A0_1 : Option Addr) (c0_1 : Nat) (l0_1 : List (S33)) (r : Bool) (w : World) (hr0_1 : Kd.C k33 w A0_1 l0_1.length l0_1) (hc0_1 : l0_1.length ≤ c0_1) (h : simple_Valid.f k a0_0 l0_1 = some r) :
   Calls Try.prog 34 #[.agg #[.int .i64 a0_0, .slice A0_1 l0_1.length c0_1]] w fun e w' => e = .returned (.bool r) ∧ Below w.heap.size w w' := by
 obtain rfl : ValH.goodB a0_0 (l0_1.map fun x => (x.f0, x.f1)) = r := by simpa [simple_Valid.f] using h
 have key := ValH.simple_calls a0_0 A0_1 c0_1 (l0_1.map fun x => (x.f0, x.f1)) w (simple_Valid.pairs hr0_1) (by rw [List.length_map]; exact hc0_1)
 rw [List.length_map] at key
 exact key
theorem tangramlaw05_fixed.valid : Sets.FixValid := by
 intro b W h0 h1
 have hr : Kd.C k33 W (some ⟨b, 0, none⟩) [(⟨0, 2⟩ : S33)].length [(⟨0, 2⟩ : S33)] := by
   refine ⟨rfl, by simp, fun _ => ⟨_, rfl, ?_⟩⟩
   intro j x hj
   obtain rfl : j = 0 := by
     rcases j with _ | j
     · rfl
     · simp at hj
   obtain rfl : x = ⟨0, 2⟩ := by simpa using hj.symm
   refine ⟨_, rfl, k33_mk W _, ?_⟩
   intro i u hi
   rcases i with _ | _ | i
   · have e : u = .int .i64 0 := by simpa using hi.symm
     rw [e]; exact h0
   · have e : u = .int .i64 2 := by simpa using hi.symm
     rw [e]; exact h1
   · simp at hi
 exact simple_Valid.calls 10 3 (some ⟨b, 0, none⟩) 1 [(⟨0, 2⟩ : S33)] true W hr (by simp) (by kernel_rfl)
theorem tangramlaw05_fixed.same : Sets.FixSame := by
 intro b c W hb hc
 have h1 := Sets.row_own (ok := fun _ => True) hb (Nat.zero_le _) (by simp) trivial
 have h2 := Sets.row_own (ok := fun _ => True) hc (Nat.zero_le _) (by simp) trivial
 obtain ⟨_, _, r1⟩ := Kd.R_reads' h1
 obtain ⟨_, _, r2⟩ := Kd.R_reads' h2
 exact tangramref01_SameInts.calls 10 (some ⟨b, 0, none⟩) 3 [0, 1, 0] (some ⟨c, 0, none⟩) 3 [0, 1, 0] true W r1 (by simp) r2 (by simp) (by kernel_rfl)
def tangramlaw05_fixed.f : Option Bool := some true
theorem tangramlaw05_fixed.calls (r : Bool) (w : World) (h : tangramlaw05_fixed.f = some r) :
   Calls Try.prog 11 #[] w fun e w' => e = .returned (.bool r) ∧ Below w.heap.size w w' := by
 obtain rfl : true = r := by simpa [tangramlaw05_fixed.f] using h
 exact Sets.fixed_calls w tangramlaw05_fixed.valid tangramlaw05_fixed.same
end Go.Proofs.Ytoajoklpbfehiaa.GAll
namespace Go.Proofs.Ytoajoklpbfehiaa.GAll
open Go.RowKit Go.Proofs.YtoajoklpbfehiaaW.PrintWords Go.Proofs.YtoajoklpbfehiaaW.PrintLast Go.Proofs.YtoajoklpbfehiaaW.PrintMore
attribute [local go_sem] max2_int min2_int max_two min_two max_three min_three max_four min_four   -- for this text's walks alone
set_option linter.unusedVariables false
set_option linter.unusedSimpArgs false
theorem comps_Of.pairs {w : World} {A : Option Addr} {l : List S33} (h : Kd.C k33 w A l.length l) : Sets.Pairs w A (l.map fun x => (x.f0, x.f1)) := by
 intro i hi
 rw [List.length_map] at hi
 obtain ⟨ad, e, h1, h2⟩ := at_T33 h (i : Int) (by omega) (by omega)
 have e2 : Sets.pe (l.map fun x => (x.f0, x.f1)) i = ((rd_T33 l (i : Int)).f0, (rd_T33 l (i : Int)).f1) := by
   unfold Sets.pe rd_T33
   simp [List.getD_eq_getElem?_getD, hi]
 rw [e2]
 exact ⟨ad, e, h1, h2⟩
def comps_Of.out (n : Int) (l : List S33) : List Nat × Nat := Sets.numTo (Sets.joinAll (List.range n.toNat) (l.map fun x => (x.f0, x.f1))) n.toNat
def comps_Of.f (k : Nat) (a0_0 : Int) (l0_1 : List S33) : Option (List Int × Int × Int) := (simple_Valid.f k a0_0 l0_1).bind fun t => if t = true then (if 0 ≤ a0_0 ∧ a0_0 ≤ 1048576 then some ((comps_Of.out a0_0 l0_1).1.map (fun (x : Nat) => (x : Int)), (((comps_Of.out a0_0 l0_1).2 : Nat) : Int), 0) else none) else some ([], 0, 1)
theorem comps_Of.mono : ∀ a0 a1 k, LeO (comps_Of.f k a0 a1) (comps_Of.f (k + 1) a0 a1) := by
 intro a0 a1 k
 unfold comps_Of.f
 exact LeO.bind (simple_Valid.mono _ _ _) (fun _ => LeO.refl _)
set_option maxHeartbeats 1000000 in
set_option maxRecDepth 100000 in
theorem comps_Of.calls (k : Nat) (a0_0 : Int) (A0_1 : Option Addr) (c0_1 : Nat) (l0_1 : List (S33)) (r1 : List Int) (r2 : Int) (r3 : Int) (w : World) (hr0_1 : Kd.C k33 w A0_1 l0_1.length l0_1) (hc0_1 : l0_1.length ≤ c0_1) (h : comps_Of.f k a0_0 l0_1 = some (r1, r2, r3)) :
   Calls Try.prog 14 #[.agg #[.int .i64 a0_0, .slice A0_1 l0_1.length c0_1]] w fun e w' => ∃ v0_ : Value, e = .returned (.tuple #[v0_, .int .i64 r2, .int .i64 r3]) ∧ Kd.R (Kd.int .i64) 3 w' w.heap.size (fun _ => True) v0_ r1 ∧ Below w.heap.size w w' := by
 obtain ⟨t, ht, h⟩ := Option.bind_eq_some_iff.mp h
 cases t with
 | false =>
   rw [if_neg (by decide)] at h
   obtain ⟨rfl, rfl, rfl⟩ : [] = r1 ∧ 0 = r2 ∧ 1 = r3 := by simpa using h
   have hv : Sets.SaysNo a0_0 A0_1 l0_1.length c0_1 w := fun W hW => simple_Valid.calls k a0_0 A0_1 c0_1 l0_1 false W (Kd.C_below hr0_1 hW) hc0_1 ht
   exact (Sets.of_no a0_0 A0_1 l0_1.length c0_1 w hv).mono fun e w' ⟨h1, h2⟩ => ⟨_, h1, Kd.R_nil _ _ _ _ _, h2⟩
 | true =>
   rw [if_pos rfl] at h
   by_cases hn : 0 ≤ a0_0 ∧ a0_0 ≤ 1048576
   · rw [if_pos hn] at h
     obtain ⟨n, rfl⟩ := Int.eq_ofNat_of_zero_le hn.1
     have hn3 : n ≤ 1048576 := Int.ofNat_le.1 hn.2
     have ho : comps_Of.out (n : Int) l0_1 = Sets.numTo (Sets.joinAll (List.range n) (l0_1.map fun x => (x.f0, x.f1))) n := by unfold comps_Of.out; rw [Int.toNat_natCast]
     rw [ho] at h
     have hv : Sets.SaysYes (n : Int) A0_1 (l0_1.map fun x => (x.f0, x.f1)).length c0_1 w := fun W hW => by
       rw [List.length_map]; exact simple_Valid.calls k _ A0_1 c0_1 l0_1 true W (Kd.C_below hr0_1 hW) hc0_1 ht
     have hl : (l0_1.map fun x => (x.f0, x.f1)).length ≤ 9223372036854775807 := by rw [List.length_map]; exact Sets.C_le hr0_1
     have hc := Sets.of_yes n A0_1 c0_1 (l0_1.map fun x => (x.f0, x.f1)) w
     have hc := hc hv
     have hc := hc hn3 (comps_Of.pairs hr0_1) hl
     rw [List.length_map] at hc
     refine hc.mono fun e w' ⟨bo, h1, h2, h3, h4⟩ => ?_
     simp only [Option.some.injEq, Prod.mk.injEq] at h
     obtain ⟨rfl, rfl, rfl⟩ := h
     have hn2 := Sets.numTo_length (Sets.joinAll (List.range n) (l0_1.map fun x => (x.f0, x.f1))) n
     have hr := Sets.row_own (ok := fun _ => True) h3 h2 (by rw [hn2]; exact Nat.le_trans hn3 (by decide)) trivial
     rw [hn2] at hr
     exact ⟨_, h1, hr, h4⟩
   · rw [if_neg hn] at h; cases h
end Go.Proofs.Ytoajoklpbfehiaa.GAll
namespace Go.Proofs.Ytoajoklpbfehiaa.GAll
open Go.RowKit Go.Proofs.YtoajoklpbfehiaaW.PrintWords Go.Proofs.YtoajoklpbfehiaaW.PrintLast Go.Proofs.YtoajoklpbfehiaaW.PrintMore
attribute [local go_sem] max2_int min2_int max_two min_two max_three min_three max_four min_four   -- for this text's walks alone
set_option linter.unusedVariables false
set_option linter.unusedSimpArgs false
theorem tangramref03_Valid.pairs {w : World} {A : Option Addr} {l : List S33} (h : Kd.C k33 w A l.length l) : Mem.Pairs w A (l.map fun x => (x.f0, x.f1)) := by
 intro i hi
 rw [List.length_map] at hi
 obtain ⟨ad, e, h1, h2⟩ := at_T33 h (i : Int) (by omega) (by omega)
 have e2 : Mem.pe (l.map fun x => (x.f0, x.f1)) i = ((rd_T33 l (i : Int)).f0, (rd_T33 l (i : Int)).f1) := by
   unfold Mem.pe rd_T33
   simp [List.getD_eq_getElem?_getD, hi]
 rw [e2]
 exact ⟨ad, e, h1, h2⟩
def tangramref03_Valid.f (k : Nat) (a0_0 : Int) (l0_1 : List S33) : Option Bool := some (ValH.goodB a0_0 (l0_1.map fun x => (x.f0, x.f1)))
theorem tangramref03_Valid.mono : ∀ a0 a1 k, LeO (tangramref03_Valid.f k a0 a1) (tangramref03_Valid.f (k + 1) a0 a1) := fun _ _ _ => LeO.refl _
theorem tangramref03_Valid.calls (k : Nat) (a0_0 : Int) (A0_1 : Option Addr) (c0_1 : Nat) (l0_1 : List (S33)) (r : Bool) (w : World) (hr0_1 : Kd.C k33 w A0_1 l0_1.length l0_1) (hc0_1 : l0_1.length ≤ c0_1) (h : tangramref03_Valid.f k a0_0 l0_1 = some r) :
   Calls Try.prog 15 #[.agg #[.int .i64 a0_0, .slice A0_1 l0_1.length c0_1]] w fun e w' => e = .returned (.bool r) ∧ Below w.heap.size w w' := by
 obtain rfl : ValH.goodB a0_0 (l0_1.map fun x => (x.f0, x.f1)) = r := by simpa [tangramref03_Valid.f] using h
 have key := ValH.ref_calls a0_0 A0_1 c0_1 (l0_1.map fun x => (x.f0, x.f1)) w (tangramref03_Valid.pairs hr0_1) (by rw [List.length_map]; exact hc0_1)
 rw [List.length_map] at key
 exact key
end Go.Proofs.Ytoajoklpbfehiaa.GAll
namespace Go.Proofs.Ytoajoklpbfehiaa.GAll
open Go.RowKit Go.Proofs.YtoajoklpbfehiaaW.PrintWords Go.Proofs.YtoajoklpbfehiaaW.PrintLast Go.Proofs.YtoajoklpbfehiaaW.PrintMore
attribute [local go_sem] max2_int min2_int max_two min_two max_three min_three max_four min_four   -- for this text's walks alone
set_option linter.unusedVariables false
set_option linter.unusedSimpArgs false
mutual
def tangramref05_New.j0 : Nat → Int → Bool → Option (List Int × Int)
 | 0, _, _ => none
 | k + 1, x0, x11 => if x11 = true then (some (([] : List Int), 2)) else (tangramref05_New.l0 k x0 ([] : List Int) 0)
def tangramref05_New.l0 : Nat → Int → List Int → Int → Option (List Int × Int)
 | 0, _, _, _ => none
 | k + 1, x0, x4, x5 => if x5 < x0 then (if x4.length < 17592186044416 then (tangramref05_New.l0 k x0 (x4 ++ [x5]) (wrap64 (x5 + 1))) else (none)) else (some (x4, 0))
end
def tangramref05_New.f (k : Nat) (a0 : Int) : Option (List Int × Int) := if a0 < 0 then (tangramref05_New.j0 k a0 true) else (tangramref05_New.j0 k a0 (decide (a0 > 1048576)))
theorem tangramref05_New.mono_l : ∀ k, (∀ y0 y1, LeO (tangramref05_New.j0 k y0 y1) (tangramref05_New.j0 (k + 1) y0 y1)) ∧ (∀ y0 y1 y2, LeO (tangramref05_New.l0 k y0 y1 y2) (tangramref05_New.l0 (k + 1) y0 y1 y2))
 | 0 => ⟨fun _ _ r h => by simp [tangramref05_New.j0] at h, fun _ _ _ r h => by simp [tangramref05_New.l0] at h⟩
 | k + 1 => by
   obtain ⟨ih0, ih1⟩ := tangramref05_New.mono_l k
   refine ⟨?_, ?_⟩
   · intro y0 y1
     unfold tangramref05_New.j0
     repeat' first
     | (with_reducible exact ih0 _ _)
     | (with_reducible exact ih1 _ _ _)
     | (with_reducible exact LeO.refl _)
     | (with_reducible exact LeO.none _)
     | (with_reducible refine LeO.ite ?_ ?_)
     | (with_reducible refine LeO.bind ?_ (fun _ => ?_))
     | exact ih0 _ _
     | exact ih1 _ _ _
     | exact LeO.none _
     | refine LeO.ite ?_ ?_
     | refine LeO.bind ?_ (fun _ => ?_)
   · intro y0 y1 y2
     unfold tangramref05_New.l0
     repeat' first
     | (with_reducible exact ih0 _ _)
     | (with_reducible exact ih1 _ _ _)
     | (with_reducible exact LeO.refl _)
     | (with_reducible exact LeO.none _)
     | (with_reducible refine LeO.ite ?_ ?_)
     | (with_reducible refine LeO.bind ?_ (fun _ => ?_))
     | exact ih0 _ _
     | exact ih1 _ _ _
     | exact LeO.none _
     | refine LeO.ite ?_ ?_
     | refine LeO.bind ?_ (fun _ => ?_)
theorem tangramref05_New.mono : ∀ a0 k, LeO (tangramref05_New.f k a0) (tangramref05_New.f (k + 1) a0) := by
 intro a0 k
 obtain ⟨ih0, ih1⟩ := tangramref05_New.mono_l k
 unfold tangramref05_New.f
 repeat' first
     | (with_reducible exact ih0 _ _)
     | (with_reducible exact ih1 _ _ _)
     | (with_reducible exact LeO.refl _)
     | (with_reducible exact LeO.none _)
     | (with_reducible refine LeO.ite ?_ ?_)
     | (with_reducible refine LeO.bind ?_ (fun _ => ?_))
     | exact ih0 _ _
     | exact ih1 _ _ _
     | exact LeO.none _
     | refine LeO.ite ?_ ?_
     | refine LeO.bind ?_ (fun _ => ?_)
set_option maxHeartbeats 8000000 in
set_option maxRecDepth 100000 in
theorem tangramref05_New.calls (k : Nat) (a0 : Int) (r1 : List Int) (r2 : Int) (w : World) (h : tangramref05_New.f k a0 = some (r1, r2)) :
   Calls Try.prog 18 #[.int .i64 a0] w fun e w' => ∃ v0_ : Value, e = .returned (.tuple #[v0_, .int .i64 r2]) ∧ Kd.R (Kd.int .i64) 3 w' w.heap.size (fun _ => True) v0_ r1 ∧ Below w.heap.size w w' := by
 have HB := Aside0.mk (Below.refl w.heap.size w)
 have H : (if a0 < 0 then (tangramref05_New.j0 k a0 true) else (tangramref05_New.j0 k a0 (decide (a0 > 1048576)))) = some (r1, r2) := h
 clear h
 have HC2 := Aside0.mk H
 clear H
 go_enter Try.func18, Try.ntmps18
 go_upto_region 1 with (fail)
 go_cut [11] (fun v11 wc => ∃ (kq : Nat) (x11_1 : Bool), v11 = .bool x11_1 ∧ Aside0 (tangramref05_New.j0 kq a0 x11_1 = some (r1, r2)) ∧ Aside0 (kq ≤ k) ∧ Aside0 (Below w.heap.size w wc))
 case first =>
   have H := HC2.out
   clear HC2
   by_cases c3 : a0 < 0
   · rw [if_pos c3] at H
     have c3b0 : decide (a0 < 0) = true := decide_eq_true c3
     clear c3
     (first | rw [c3b0] | (simp only [i64_w, i32_w]; rw [c3b0]) | skip)
     have H' := Aside0.mk H
     clear H
     go_wp2
     go_meet
     case rel => exact ⟨_, (true), (by first | rfl | (simp; done) | (simp [*]; done)), H', ⟨by first | omega | exact Nat.le_refl _⟩, ⟨by repeat (first | (with_reducible first | exact HB.out | apply below_alloc | apply pw_below_drewN | apply below_drew1) | exact HB.out)⟩⟩
   · rw [if_neg c3] at H
     have c3b0 : decide (a0 < 0) = false := decide_eq_false c3
     clear c3
     (first | rw [c3b0] | (simp only [i64_w, i32_w]; rw [c3b0]) | skip)
     have H' := Aside0.mk H
     clear H
     go_wp2
     go_meet
     case rel => exact ⟨_, (decide (a0 > 1048576)), (by first | rfl | (simp; done) | (simp [*]; done)), H', ⟨by first | omega | exact Nat.le_refl _⟩, ⟨by repeat (first | (with_reducible first | exact HB.out | apply below_alloc | apply pw_below_drewN | apply below_drew1) | exact HB.out)⟩⟩
 case rest =>
   clear HC2
   try clear c1
   try clear p2
   try clear c3
   try clear c3b0
   obtain ⟨kq, x11_1, rfl, HA, HJ1, HB⟩ := hcut
   cases kq with
   | zero => exact absurd HA.out (by simp [tangramref05_New.j0])
   | succ kj1 =>
     have H := HA.out
     clear HA
     simp only [tangramref05_New.j0] at H
     by_cases c4 : x11_1 = true
     · subst c4
       have H1 : (some (([] : List Int), 2)) = some (r1, r2) := by rw [if_pos rfl] at H; exact H
       clear H
       have H := H1
       clear H1
       simp only [Option.some.injEq, Prod.mk.injEq] at H
       obtain ⟨rfl, rfl⟩ := H
       go_wp2
       go_ret2
       exact ⟨_, by first | rfl | (simp [errW_none, errW_some] <;> rfl) | (simp [*, errW_none, errW_some] <;> rfl), by first | exact Kd.R_nil _ _ _ _ _ | exact Kd.N_nil _ _ _ _ _ | exact Kd.V_nil _ _ _ _ _ | exact Kd.Q_nil _ _ _ _ _ | exact Kd.S_nil _ _ _ _ _, by repeat (first | (with_reducible first | exact HB.out | apply below_alloc | apply pw_below_drewN | apply below_drew1) | exact HB.out)⟩
     · replace c4 := Bool.eq_false_iff.mpr c4
       subst c4
       have H1 : (tangramref05_New.l0 kj1 a0 ([] : List Int) 0) = some (r1, r2) := by rw [if_neg (show ¬ (false = true) by decide)] at H; exact H
       clear H
       have H := H1
       clear H1
       have H' := Aside0.mk H
       clear H
       go_wp2
       go_loopg [4, 5] kj1 (fun kq v4 v5 w' => ∃ (x4_2 : List Int) (x5_2 : Int), v5 = .int .i64 x5_2 ∧ Aside0 (tangramref05_New.l0 kq a0 x4_2 x5_2 = some (r1, r2)) ∧ Aside0 (kq ≤ kj1) ∧ Aside0 (Kd.R (Kd.int .i64) 3 w' w.heap.size (fun _ => True) v4 x4_2) ∧ Aside0 (Below w.heap.size w w'))
       case atStart => exact ⟨(([] : List Int)), (0), (by first | rfl | (simp; done) | (simp [*]; done)), H', ⟨Nat.le_refl _⟩, ⟨by first | exact Kd.R_nil _ _ _ _ _ | exact Kd.N_nil _ _ _ _ _ | exact Kd.V_nil _ _ _ _ _ | exact Kd.Q_nil _ _ _ _ _ | exact Kd.S_nil _ _ _ _ _⟩, ⟨by repeat (first | (with_reducible first | exact HB.out | apply below_alloc | apply pw_below_drewN | apply below_drew1) | exact HB.out)⟩⟩
       case round =>
         clear H'
         try clear c1
         try clear p2
         try clear c3
         try clear c3b0
         try clear c4
         try clear p2
         obtain ⟨x4_2, x5_2, rfl, HA, HK2, HO_4, HB⟩ := hrel
         cases gk with
         | zero => exact absurd HA.out (by simp [tangramref05_New.l0])
         | succ k2 =>
           have H := HA.out
           clear HA
           simp only [tangramref05_New.l0] at H
           by_cases c5 : x5_2 < a0
           · rw [if_pos c5] at H
             have c5b0 : decide (x5_2 < a0) = true := decide_eq_true c5
             clear c5
             by_cases c6 : x4_2.length < 17592186044416
             · rw [if_pos c6] at H
               have LMc6 := Aside0.mk c6
               clear c6
               obtain ⟨y103, hy103⟩ : ∃ y_ : List Int, y_ = (x4_2 ++ [x5_2]) := ⟨_, rfl⟩
               replace H : (tangramref05_New.l0 k2 a0 y103 (wrap64 (x5_2 + 1))) = some (r1, r2) := by first | (rw [hy103]; with_reducible exact H) | (have H2_ := (Option.bind_some _ _).symm.trans H; rw [hy103]; with_reducible exact H2_) | (have H2_ := (Option.bind_some _ _).symm.trans H; with_reducible exact H2_) | with_reducible exact H | (rw [hy103]; exact H) | exact H
               have Ny103 := Aside0.mk hy103
               clear hy103
               have H' := Aside0.mk H
               clear H
               go_wp2_with (first | ((with_reducible refine gate_builtin (b := .append) (xs := #[.tmp 17, .tmp 19]) rfl ?_); at_builtin; refine Kd.R_append (Kd.int .i64) (w0 := w) w.heap.size rfl (.tmp 17) (.tmp 19) 34 3 (.int .i64 0) 8 rfl Try.underlying34 info3 rfl (by decide) (by omega) u4 x4_2 x5_2 [.int .i64 x5_2] (fun _ => True) (fun _ => False) rfl rfl ?aP (fun _ hk => hk.elim) ?aF ?aO ?aB ?aS ?aL ?_; (case aP => exact rfl); (case aB => exact (by repeat (first | (with_reducible first | exact HB.out | apply below_alloc | apply pw_below_drewN | apply below_drew1) | exact HB.out))); (case aF => exact (fun _ _ => trivial)); (case aO => exact (by (with_reducible repeat (first | apply Kd.R_alloc | apply Kd.R_drewN | apply Kd.R_drew)); exact HO_4.out)); (case aS => exact (below_size (by repeat (first | (with_reducible first | exact HB.out | apply below_alloc | apply pw_below_drewN | apply below_drew1) | exact HB.out)))); (case aL => have := LMc6.out; omega); intro v104 w7 ho hb hg hat; rw [← Ny103.out] at ho; have n0_ := Aside0.mk (hb); have n1_ := Aside0.mk (ho); clear HB; clear HO_4; have HB := n0_; have HO105 := n1_; clear n0_ n1_; clear ho hb hg hat))
               go_roundg k2
               case measure => have := HJ1.out; have := HK2.out; omega
               case rel => exact ⟨(y103), (wrap64 (x5_2 + 1)), (by first | rfl | (simp; done) | (simp [*]; done)), H', ⟨by have := HJ1.out; have := HK2.out; omega⟩, ⟨by (with_reducible repeat (first | apply Kd.R_alloc | apply Kd.R_drewN | apply Kd.R_drew)); exact HO105.out⟩, ⟨by repeat (first | (with_reducible first | exact HB.out | apply below_alloc | apply pw_below_drewN | apply below_drew1) | exact HB.out)⟩⟩
             · rw [if_neg c6] at H
               exact absurd H (by simp)
           · rw [if_neg c5] at H
             have c5b0 : decide (x5_2 < a0) = false := decide_eq_false c5
             clear c5
             simp only [Option.some.injEq, Prod.mk.injEq] at H
             obtain ⟨rfl, rfl⟩ := H
             go_wp2
             go_ret2
             exact ⟨_, by first | rfl | (simp [errW_none, errW_some] <;> rfl) | (simp [*, errW_none, errW_some] <;> rfl), by (with_reducible repeat (first | apply Kd.R_alloc | apply Kd.R_drewN | apply Kd.R_drew)); exact HO_4.out, by repeat (first | (with_reducible first | exact HB.out | apply below_alloc | apply pw_below_drewN | apply below_drew1) | exact HB.out)⟩
end Go.Proofs.Ytoajoklpbfehiaa.GAll
namespace Go.Proofs.Ytoajoklpbfehiaa.GAll
open Go.RowKit Go.Proofs.YtoajoklpbfehiaaW.PrintWords Go.Proofs.YtoajoklpbfehiaaW.PrintLast Go.Proofs.YtoajoklpbfehiaaW.PrintMore
attribute [local go_sem] max2_int min2_int max_two min_two max_three min_three max_four min_four   -- for this text's walks alone
set_option linter.unusedVariables false
set_option linter.unusedSimpArgs false
theorem tangramref05_Of.pairs {w : World} {A : Option Addr} {l : List S33} (h : Kd.C k33 w A l.length l) : Sets.Pairs w A (l.map fun x => (x.f0, x.f1)) := by
 intro i hi
 rw [List.length_map] at hi
 obtain ⟨ad, e, h1, h2⟩ := at_T33 h (i : Int) (by omega) (by omega)
 have e2 : Sets.pe (l.map fun x => (x.f0, x.f1)) i = ((rd_T33 l (i : Int)).f0, (rd_T33 l (i : Int)).f1) := by
   unfold Sets.pe rd_T33
   simp [List.getD_eq_getElem?_getD, hi]
 rw [e2]
 exact ⟨ad, e, h1, h2⟩
theorem tangramref05_Of.newLoop (n : Nat) (hn : n ≤ 1048576) (d : Nat) : ∀ (k i : Nat), i + d = n → d < k → tangramref05_New.l0 k (n : Int) ((List.range i).map fun (x : Nat) => (x : Int)) (i : Int) = some ((List.range n).map (fun (x : Nat) => (x : Int)), 0) := by
 induction d with
 | zero =>
   intro k i hi hk
   obtain ⟨k, rfl⟩ : ∃ m, k = m + 1 := ⟨k - 1, by omega⟩
   obtain rfl : i = n := by omega
   simp only [tangramref05_New.l0]; rw [if_neg (by omega)]
 | succ d ih =>
   intro k i hi hk
   obtain ⟨k, rfl⟩ : ∃ m, k = m + 1 := ⟨k - 1, by omega⟩
   simp only [tangramref05_New.l0]
   rw [if_pos (by omega), if_pos (by rw [List.length_map, List.length_range]; omega)]
   have e1 : wrap64 ((i : Int) + 1) = ((i + 1 : Nat) : Int) := by unfold wrap64; omega
   have e2 : ((List.range i).map fun (x : Nat) => (x : Int)) ++ [(i : Int)] = (List.range (i + 1)).map fun (x : Nat) => (x : Int) := by rw [List.range_succ, List.map_append]; rfl
   rw [e1, e2]
   exact ih k (i + 1) (by omega) (by omega)
theorem tangramref05_Of.new (n : Nat) (hn : n ≤ 1048576) : tangramref05_New.f (n + 2) (n : Int) = some ((List.range n).map (fun (x : Nat) => (x : Int)), 0) := by
 unfold tangramref05_New.f
 rw [if_neg (by omega)]
 have hd : decide ((n : Int) > 1048576) = false := decide_eq_false (by omega)
 rw [hd]
 simp only [tangramref05_New.j0]
 rw [if_neg (by decide)]
 exact tangramref05_Of.newLoop n hn n (n + 1) 0 (by omega) (by omega)
theorem tangramref05_Of.refNew (n : Nat) (hn : n ≤ 1048576) : Sets.RefNew n := fun w' => (tangramref05_New.calls (n + 2) (n : Int) _ 0 w' (tangramref05_Of.new n hn)).mono fun _ _ h => h
def tangramref05_Of.fit (n : Int) (l : List S33) : Bool := decide (0 ≤ n) && decide (n ≤ 1048576) && decide (l.length ≤ 4194304) && l.all fun x => decide (0 ≤ x.f0) && decide (x.f0 < n) && decide (0 ≤ x.f1) && decide (x.f1 < n)
def tangramref05_Of.out (n : Int) (l : List S33) : List Nat × Nat := Sets.numTo (Sets.joinAll (List.range n.toNat) (l.map fun x => (x.f0, x.f1))) n.toNat
def tangramref05_Of.f (k : Nat) (a0_0 : Int) (l0_1 : List S33) : Option (List Int × Int × Int) := (tangramref03_Valid.f k a0_0 l0_1).bind fun t => if t = true then (if tangramref05_Of.fit a0_0 l0_1 = true then some ((tangramref05_Of.out a0_0 l0_1).1.map (fun (x : Nat) => (x : Int)), (((tangramref05_Of.out a0_0 l0_1).2 : Nat) : Int), 0) else none) else some ([], 0, 1)
theorem tangramref05_Of.mono : ∀ a0 a1 k, LeO (tangramref05_Of.f k a0 a1) (tangramref05_Of.f (k + 1) a0 a1) := by
 intro a0 a1 k
 unfold tangramref05_Of.f
 exact LeO.bind (tangramref03_Valid.mono _ _ _) (fun _ => LeO.refl _)
set_option maxHeartbeats 1000000 in
set_option maxRecDepth 100000 in
theorem tangramref05_Of.calls (k : Nat) (a0_0 : Int) (A0_1 : Option Addr) (c0_1 : Nat) (l0_1 : List (S33)) (r1 : List Int) (r2 : Int) (r3 : Int) (w : World) (hr0_1 : Kd.C k33 w A0_1 l0_1.length l0_1) (hc0_1 : l0_1.length ≤ c0_1) (h : tangramref05_Of.f k a0_0 l0_1 = some (r1, r2, r3)) :
   Calls Try.prog 27 #[.agg #[.int .i64 a0_0, .slice A0_1 l0_1.length c0_1]] w fun e w' => ∃ v0_ : Value, e = .returned (.tuple #[v0_, .int .i64 r2, .int .i64 r3]) ∧ Kd.R (Kd.int .i64) 3 w' w.heap.size (fun _ => True) v0_ r1 ∧ Below w.heap.size w w' := by
 obtain ⟨t, ht, h⟩ := Option.bind_eq_some_iff.mp h
 cases t with
 | false =>
   rw [if_neg (by decide)] at h
   obtain ⟨rfl, rfl, rfl⟩ : [] = r1 ∧ 0 = r2 ∧ 1 = r3 := by simpa using h
   have hv : Sets.RefNo a0_0 A0_1 l0_1.length c0_1 w := fun W hW => tangramref03_Valid.calls k a0_0 A0_1 c0_1 l0_1 false W (Kd.C_below hr0_1 hW) hc0_1 ht
   exact (Sets.refOf_no a0_0 A0_1 l0_1.length c0_1 w hv).mono fun e w' ⟨h1, h2⟩ => ⟨_, h1, Kd.R_nil _ _ _ _ _, h2⟩
 | true =>
   rw [if_pos rfl] at h
   by_cases hf : tangramref05_Of.fit a0_0 l0_1 = true
   · rw [if_pos hf] at h
     simp only [tangramref05_Of.fit, Bool.and_eq_true, decide_eq_true_eq, List.all_eq_true] at hf
     obtain ⟨⟨⟨hn1, hn2⟩, hl⟩, hin⟩ := hf
     obtain ⟨n, rfl⟩ := Int.eq_ofNat_of_zero_le hn1
     have hn3 : n ≤ 1048576 := Int.ofNat_le.1 hn2
     have ho : tangramref05_Of.out (n : Int) l0_1 = Sets.numTo (Sets.joinAll (List.range n) (l0_1.map fun x => (x.f0, x.f1))) n := by unfold tangramref05_Of.out; rw [Int.toNat_natCast]
     rw [ho] at h
     simp only [Option.some.injEq, Prod.mk.injEq] at h
     obtain ⟨rfl, rfl, rfl⟩ := h
     by_cases hpos : 0 < n
     · have hv : Sets.RefYes (n : Int) A0_1 (l0_1.map fun x => (x.f0, x.f1)).length c0_1 w := fun W hW => by
         rw [List.length_map]; exact tangramref03_Valid.calls k _ A0_1 c0_1 l0_1 true W (Kd.C_below hr0_1 hW) hc0_1 ht
       have hin2 : ∀ i, i < (l0_1.map fun x => (x.f0, x.f1)).length → 0 ≤ (Sets.pe (l0_1.map fun x => (x.f0, x.f1)) i).1 ∧ (Sets.pe (l0_1.map fun x => (x.f0, x.f1)) i).1 < n ∧ 0 ≤ (Sets.pe (l0_1.map fun x => (x.f0, x.f1)) i).2 ∧ (Sets.pe (l0_1.map fun x => (x.f0, x.f1)) i).2 < n := by
         intro i hi
         rw [List.length_map] at hi
         have e2 : Sets.pe (l0_1.map fun x => (x.f0, x.f1)) i = ((l0_1[i]'hi).f0, (l0_1[i]'hi).f1) := by unfold Sets.pe; simp [List.getD_eq_getElem?_getD, hi]
         rw [e2]
         have := hin _ (List.getElem_mem hi)
         exact ⟨this.1.1.1, this.1.1.2, this.1.2, this.2⟩
       have hc := Sets.refOf_pos n A0_1 c0_1 (l0_1.map fun x => (x.f0, x.f1)) w
       have hc := hc hv (tangramref05_Of.refNew n hn3) hn3 hpos (tangramref05_Of.pairs hr0_1) (by rw [List.length_map]; exact hl) hin2
       rw [List.length_map] at hc
       refine hc.mono fun e w' ⟨bo, h1, h2, h3, h4⟩ => ?_
       have hn4 := Sets.numTo_length (Sets.joinAll (List.range n) (l0_1.map fun x => (x.f0, x.f1))) n
       have hr := Sets.row_own (ok := fun _ => True) h3 h2 (by rw [hn4]; exact Nat.le_trans hn3 (by decide)) trivial
       rw [hn4] at hr
       exact ⟨_, h1, hr, h4⟩
     · obtain rfl : n = 0 := by omega
       obtain rfl : l0_1 = [] := by
         cases l0_1 with
         | nil => rfl
         | cons x l => have := hin x (List.mem_cons_self ..); have h5 := this.1.1.1; have h6 := this.1.1.2; exact absurd (Int.lt_of_le_of_lt h5 h6) (by decide)
       have hv : Sets.RefYes 0 A0_1 0 c0_1 w := fun W hW => tangramref03_Valid.calls k 0 A0_1 c0_1 [] true W (Kd.C_below hr0_1 hW) hc0_1 ht
       refine (Sets.refOf_zero A0_1 c0_1 w hv (tangramref05_Of.refNew 0 (by decide))).mono fun e w' ⟨bo, h1, h2, h3, h4⟩ => ?_
       exact ⟨_, h1, Sets.row_own (ok := fun _ => True) h3 h2 (by decide) trivial, h4⟩
   · rw [if_neg hf] at h; cases h
end Go.Proofs.Ytoajoklpbfehiaa.GAll
