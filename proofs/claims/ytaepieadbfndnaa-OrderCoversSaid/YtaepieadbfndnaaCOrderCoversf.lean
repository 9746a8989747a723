/- DERIVED. Texts that OrderCovers needs. -/
import Derived.Test.YtaepieadbfndnaaCOrderCoversd
import Derived.Test.YtaepieadbfndnaaCOrderCoversc
import Derived.Test.YtaepieadbfndnaaCOrderCoverse
import Derived.Deep.QuietTactic
import Derived.BigQuiet
import Derived.StillTailTactics
set_option linter.unusedVariables false
set_option linter.unusedSimpArgs false
set_option maxRecDepth 100000
set_option maxHeartbeats 64000000
namespace Go.Proofs.Ytaepieadbfndnaa
open Go.RowKit Go.Proofs.YtaepieadbfndnaaW.PrintWords Go.Proofs.YtaepieadbfndnaaW.PrintLast Go.Proofs.YtaepieadbfndnaaW.PrintMore
attribute [local go_sem] max2_int min2_int max_two min_two max_three min_three max_four min_four   -- for this text's walks alone
namespace Peel
open Mem Cnt
def rankTo (N : Nat) (l : List Int) : Nat → Option (List Int)
 | 0 => some (List.replicate N (-1))
 | k + 1 => (rankTo N l k).bind fun rk => if gi l k < 0 ∨ (N : Int) ≤ gi l k ∨ 0 ≤ gi rk (gi l k).toNat then none else some (rk.set (gi l k).toNat (k : Int))
def laysTo (ar : List (List Int)) (rk : List Int) (N : Nat) (a b : Int) (l : List Int) : Nat → Option (List (List Int) × List Int)
 | 0 => some (List.replicate N [], [a, b])
 | k + 1 => (laysTo ar rk N a b l k).bind fun t => (layF ar rk t.2 (gi l (k + 2)).toNat).bind fun u => some (t.1.set (k + 2) u.1, u.2)
def coversF (N : Nat) (ar : List (List Int)) (a b c : Int) (l : List Int) : Option (List (List Int)) :=
 if l.length ≠ N then none else (rankTo N l N).bind fun rk => if gi l 0 ≠ a ∨ gi l 1 ≠ b ∨ gi l (N - 1) ≠ c then none else (laysTo ar rk N a b l (N - 2)).map (·.1)
theorem rankTo_in {N : Nat} {l : List Int} : ∀ {k : Nat} {rk : List Int}, rankTo N l k = some rk → rk.length = N ∧ ∀ j, j < k → 0 ≤ gi l j ∧ gi l j < (N : Int)
 | 0, rk, h => by
  obtain rfl := Option.some.inj h
  exact ⟨by simp, fun j hj => by omega⟩
 | k + 1, rk, h => by
  unfold rankTo at h
  obtain ⟨r0, h0, h1⟩ := Option.bind_eq_some_iff.1 h
  obtain ⟨h2, h3⟩ := rankTo_in h0
  split at h1
  ·cases h1
  ·rename_i hn
   obtain rfl := Option.some.inj h1
   refine ⟨by rw [List.length_set]; exact h2, fun j hj => ?_⟩
   rcases Nat.lt_or_ge j k with g | g
   ·exact h3 j g
   ·obtain rfl : j = k := by omega
    omega
theorem rankTo_none {N : Nat} {l : List Int} {k : Nat} (h : rankTo N l k = none) : ∀ d, rankTo N l (k + d) = none
 | 0 => h
 | d + 1 => by
  show (rankTo N l (k + d)).bind _ = none
  rw [rankTo_none h d]; rfl
theorem laysTo_none {ar : List (List Int)} {rk : List Int} {N : Nat} {a b : Int} {l : List Int} {k : Nat} (h : laysTo ar rk N a b l k = none) : ∀ d, laysTo ar rk N a b l (k + d) = none
 | 0 => h
 | d + 1 => by
  show (laysTo ar rk N a b l (k + d)).bind _ = none
  rw [laysTo_none h d]; rfl
theorem gi_mem_ {P : Int → Prop} {l : List Int} (h : ∀ j, j < l.length → P (gi l j)) : ∀ x ∈ l, P x := by
 intro x hx
 obtain ⟨i, hi, rfl⟩ := List.getElem_of_mem hx
 have := h i hi
 unfold gi at this
 rw [List.getD_eq_getElem?_getD, List.getElem?_eq_getElem hi] at this
 exact this
theorem gi_of_mem {P : Int → Prop} {l : List Int} (h : ∀ x ∈ l, P x) : ∀ j, j < l.length → P (gi l j) := by
 intro j hj
 unfold gi
 rw [List.getD_eq_getElem?_getD, List.getElem?_eq_getElem hj]
 exact h _ (List.getElem_mem hj)
theorem layF_next {ar : List (List Int)} {rk sh feet sh' : List Int} {v : Nat} {P : Int → Prop} (h : layF ar rk sh v = some (feet, sh')) (hv : P (v : Int)) (hs : ∀ j, j < sh.length → P (gi sh j)) : (∀ j, j < sh'.length → P (gi sh' j)) ∧ sh'.length ≤ sh.length + 1 ∧ ∀ j, j < feet.length → P (gi feet j) := by
 obtain ⟨foot, h1⟩ : ∃ foot, foot = footTo rk (gl ar v) v (gl ar v).length := ⟨_, rfl⟩
 obtain ⟨fe, h2⟩ : ∃ fe, fe = feetTo foot sh sh.length := ⟨_, rfl⟩
 obtain ⟨fi, h3⟩ : ∃ fi, fi = firstTo foot sh sh.length := ⟨_, rfl⟩
 obtain ⟨la, h4⟩ : ∃ la, la = (fi + (fe.length : Int) - 1).toNat := ⟨_, rfl⟩
 rw [layF_eq h1 h2 h3 h4] at h
 have hff := first_feet foot sh sh.length (Nat.le_refl _)
 rw [← h2, ← h3] at hff
 split at h
 ·cases h
 ·rename_i hn
  split at h
  ·cases h
  ·obtain ⟨rfl, rfl⟩ := Prod.mk.inj (Option.some.inj h)
   have hM : 2 ≤ fe.length := Nat.le_of_not_lt fun q => hn (.inl q)
   rcases hff with ⟨q1, q2⟩ | ⟨q1, q2, q3⟩
   ·rw [q2] at hM; simp at hM
   refine ⟨gi_of_mem fun x hx => ?_, ?_, ?_⟩
   ·rw [List.mem_append, List.mem_append, List.mem_singleton] at hx
    rcases hx with (hx | hx) | hx
    ·exact gi_mem_ hs x (List.mem_of_mem_take hx)
    ·rw [hx]; exact hv
    ·exact gi_mem_ hs x (List.mem_of_mem_drop hx)
   ·rw [List.length_append, List.length_append, List.length_take, List.length_drop, List.length_singleton]
    omega
   ·rw [h2]; exact feetTo_in hs _
theorem laysTo_in {ar : List (List Int)} {rk : List Int} {N : Nat} {a b : Int} {l : List Int} (ha : 0 ≤ a ∧ a < (N : Int)) (hb : 0 ≤ b ∧ b < (N : Int)) : ∀ {k : Nat} {out : List (List Int)} {sh : List Int}, (∀ j, j < k + 2 → 0 ≤ gi l j ∧ gi l j < (N : Int)) → laysTo ar rk N a b l k = some (out, sh) → out.length = N ∧ sh.length ≤ k + 2 ∧ ∀ j, j < sh.length → 0 ≤ gi sh j ∧ gi sh j < (N : Int)
 | 0, out, sh, _, h => by
  obtain ⟨rfl, rfl⟩ := Prod.mk.inj (Option.some.inj h)
  refine ⟨by simp, Nat.le_refl _, gi_of_mem (P := fun x => 0 ≤ x ∧ x < (N : Int)) fun x hx => ?_⟩
  simp only [List.mem_cons, List.not_mem_nil, or_false] at hx
  rcases hx with rfl | rfl
  ·exact ha
  ·exact hb
 | k + 1, out, sh, hl, h => by
  unfold laysTo at h
  obtain ⟨⟨o0, s0⟩, h0, h1⟩ := Option.bind_eq_some_iff.1 h
  obtain ⟨⟨f0, s1⟩, h2, h3⟩ := Option.bind_eq_some_iff.1 h1
  obtain ⟨rfl, rfl⟩ := Prod.mk.inj (Option.some.inj h3)
  obtain ⟨e1, e2, e3⟩ := laysTo_in ha hb (fun j hj => hl j (by omega)) h0
  obtain ⟨e4, e5, _⟩ := layF_next (P := fun x => 0 ≤ x ∧ x < (N : Int)) h2 (by have := hl (k + 2) (by omega); omega) e3
  exact ⟨by rw [List.length_set]; exact e1, by simp only at e5 ⊢; omega, e4⟩
def filTo (N k : Nat) : List Int := (List.range N).map fun i => if i < k then -1 else 0
theorem filTo_length (N k : Nat) : (filTo N k).length = N := by simp [filTo]
theorem filTo_zero (N : Nat) : List.replicate N 0 = filTo N 0 := by
 unfold filTo
 refine List.ext_getElem (by simp) fun i h1 h2 => ?_
 simp
theorem filTo_all (N : Nat) : filTo N N = List.replicate N (-1) := by
 unfold filTo
 refine List.ext_getElem (by simp) fun i h1 h2 => ?_
 simp at h1
 simp [h1]
theorem filTo_set {N k : Nat} (hk : k < N) : (filTo N k).set k (-1) = filTo N (k + 1) := by
 unfold filTo
 refine List.ext_getElem (by simp) fun i h1 h2 => ?_
 rw [List.getElem_set]
 simp only [List.getElem_map, List.getElem_range]
 by_cases c : k = i
 ·subst c
  rw [if_pos rfl, if_pos (by omega)]
 ·rw [if_neg c]
  by_cases d : i < k
  ·rw [if_pos d, if_pos (by omega)]
  ·rw [if_neg d, if_neg (by omega)]
theorem Rows2.mv {S : Nat → Prop} {w w1 : World} {B bo : Nat} {vs : List Value} {gs : List (List Int)} (h : Rows2 w B bo vs gs) (f : Mem.Frame S w w1) (h0 : ¬ S bo) (hS : ∀ k, S k → k < B) : Rows2 w1 B bo vs gs :=
 ⟨h.len, f.blk h.out h0, fun j hj => own_move (h.own j hj) (fun k hk => f.block k ((h.own j hj).lt k hk).2 (fun e => by have := ((h.own j hj).lt k hk).1; have := hS k e; omega)), h.col, Nat.le_trans h.base f.size⟩
theorem Rows2.putF {S : Nat → Prop} {w w1 : World} {B bo : Nat} {vs : List Value} {gs : List (List Int)} (h : Rows2 w B bo vs gs) (hf1 : Mem.Frame S w w1) (h0 : ¬ S bo) (hS : ∀ k, S k → k < B) {k : Nat} (hk : k < gs.length) {v' : Value} {g' : List Int}
  (hown : w1.ownsRow w.heap.size 3 1 v' g'.length (encs (Value.int .i64) g')) : Rows2 (w1.setCell ⟨bo, k, none⟩ v') B bo (vs.set k v') (gs.set k g') := by
 have hl := h.len
 have hbo := lt_of h.out
 obtain ⟨f, hf⟩ := h.col
 have h1 := Rows2.mv h hf1 h0 hS
 refine ⟨by simp [h.len], ?_, ?_, ⟨fun b => if v'.ownBlock = some b then k else f b, ?_⟩, by simpa [World.setCell] using h1.base⟩
 ·rw [heap_set h1.out]; simp
 ·intro j hj
  rw [List.length_set] at hj
  rw [gl_set, va_set]
  by_cases hkj : k = j
  ·subst hkj
   rw [if_pos ⟨rfl, by omega⟩, if_pos ⟨rfl, by omega⟩]
   exact own_low (own_move hown (fun q hq => Below.heap_setCell _ _ _ _ (fun e => by have := (hown.lt q hq).1; simp at e; omega))) h.base
  ·rw [if_neg (by simp [hkj]), if_neg (by simp [hkj])]
   exact own_move (h1.own j hj) (fun q hq => Below.heap_setCell _ _ _ _ (fun e => (hf j hj q hq).2 e))
 ·intro j hj q hq
  rw [List.length_set] at hj
  rw [va_set] at hq
  by_cases hkj : k = j
  ·subst hkj
   rw [if_pos ⟨rfl, by omega⟩] at hq
   exact ⟨by simp [hq], fun e => by have := (hown.lt q hq).1; omega⟩
  ·rw [if_neg (by simp [hkj])] at hq
   refine ⟨?_, (hf j hj q hq).2⟩
   show (if v'.ownBlock = some q then k else f q) = j
   rw [if_neg (fun e => by have h2 := (hown.lt q e).1; have h3 := ((h.own j hj).lt q hq).2; omega)]
   exact (hf j hj q hq).1
structure Rs (w0 w : World) (N : Nat) (a b : Int) (r s : Option Nat) : Prop where
 old : Below w0.heap.size w0 w
 rr : ∀ k, r = some k → IRow w k (List.replicate N 0) ∧ w0.heap.size ≤ k
 ss : ∀ k, s = some k → IRow w k [a, b] ∧ w0.heap.size ≤ k
 ne : ∀ i j, r = some i → s = some j → i ≠ j
theorem Rs.start (w : World) (N : Nat) (a b : Int) : Rs w w N a b none none := ⟨Below.refl _ _, (fun k e => by cases e), (fun k e => by cases e), (fun i j e => by cases e)⟩
theorem Rs.made {w0 w : World} {N : Nat} {a b : Int} {s : Option Nat} (h : Rs w0 w N a b none s) : Rs w0 (w.alloc (.cells (madeCells #[.int .i64 0] N) 3 (0, 0))) N a b (some w.heap.size) s := by
 rw [made_int]
 refine ⟨h.old.alloc h.old.size _, fun k e => ?_, fun k e => ⟨heap_old (h.ss k e).1 _, (h.ss k e).2⟩, fun i j e1 e2 => ?_⟩
 ·obtain rfl : w.heap.size = k := by simpa using e
  exact ⟨IRow.start w N, h.old.size⟩
 ·have := lt_of (h.ss j e2).1
  have : w.heap.size = i := by simpa using e1
  omega
theorem Rs.lit {w0 w : World} {N : Nat} {a b : Int} {r : Option Nat} (h : Rs w0 w N a b r none) : Rs w0 (w.alloc (.cells #[.int .i64 a, .int .i64 b] 3 (0, 0))) N a b r (some w.heap.size) := by
 refine ⟨h.old.alloc h.old.size _, fun k e => ⟨heap_old (h.rr k e).1 _, (h.rr k e).2⟩, fun k e => ?_, fun i j e1 e2 => ?_⟩
 ·obtain rfl : w.heap.size = k := by simpa using e
  exact ⟨heap_last w _, h.old.size⟩
 ·have := lt_of (h.rr i e1).1
  have : w.heap.size = j := by simpa using e2
  omega
theorem Rs.cell {w0 w : World} {N : Nat} {a b : Int} {r s : Option Nat} (h : Rs w0 w N a b r s) {p : Addr} {v : Value} (hv : w0.cell? p = some v) : w.cell? p = some v := (h.old.cell (cell_lt hv)).trans hv
theorem C_fr {S : Nat → Prop} {w w' : World} {A : Option Addr} {n : Nat} {xs : List Int} (h : Kd.C (Kd.int .i64) w A n xs) (f : Mem.Frame S w w') (hA : ∀ g, A = some g → g.block < w.heap.size ∧ ¬ S g.block) : Kd.C (Kd.int .i64) w' A n xs := by
 refine ⟨h.1, h.2.1, fun hp => ?_⟩
 obtain ⟨ad, e, hc⟩ := h.2.2 hp
 refine ⟨ad, e, fun j p hj => ?_⟩
 obtain ⟨cs, h1, h2, h3⟩ := hc j p hj
 refine ⟨cs, h1, h2, fun i u hu => ?_⟩
 have h4 := h3 i u hu
 have hb : ∀ m, (ad.add m).block = ad.block := fun m => by unfold Addr.add; split <;> rfl
 obtain ⟨q1, q2⟩ := hA ad e
 have h5 := f.block ad.block q1 q2
 unfold World.cell? at h4 ⊢
 rw [hb] at h4 ⊢
 rw [h5]
 exact h4
theorem Rim.fr {S : Nat → Prop} {w0 w w' : World} {B : Rl} {ar : List (List Int)} {a b c : Int} {rk sh : List Int} {As : Option Addr} {cs : Nat} (h : Rim w0 w B ar a b c rk sh As cs) (f : Mem.Frame S w w') (h1 : ∀ k, S k → w0.heap.size ≤ k) (h2 : ¬ S B.p) (h3 : ¬ S B.r) (h4 : ∀ g, As = some g → ¬ S g.block) : Rim w0 w' B ar a b c rk sh As cs :=
 ⟨h.old.trans (f.below h.old.size h1), h.frame, h.rows, h.lar, h.lop, h.lor, f.blk h.rim h2, h.r.frame f h3, h.lr, C_fr h.shown f (fun g e => ⟨(h.bnd g e).2.1, h4 g e⟩), h.cap, fun g e => ⟨(h.bnd g e).1, Nat.lt_of_lt_of_le (h.bnd g e).2.1 f.size, (h.bnd g e).2.2⟩, h.ne⟩
def CovPost (w : World) (res : Option (List (List Int))) (e : Ending) (w' : World) : Prop :=
 match res with
 | none => e = .returned (.tuple #[.slice none 0 0, .bool false]) ∧ Below w.heap.size w w'
 | some out => ∃ u, e = .returned (.tuple #[u, .bool true]) ∧ Kd.S KR 27 w' w.heap.size (fun _ => True) u out ∧ Below w.heap.size w w'
theorem covers_calls {w : World} {bf N : Nat} {gE : Value} {A : Option Addr} {cA : Nat} {ar : List (List Int)} {a b c : Int} (hf : w.heap[bf]? = some (.cells #[.int .i64 (N : Int), gE, .slice A N cA, .int .i64 a, .int .i64 b, .int .i64 c] 69 (0, 0))) (hr : Kd.C KR w A ar.length ar) (hal : ar.length = N) (hok : Ok N ar) (h3 : 3 ≤ N) (ha : 0 ≤ a ∧ a < (N : Int)) (hb : 0 ≤ b ∧ b < (N : Int))
  (Al : Option Addr) (cl : Nat) (l : List Int) (hl : Kd.C (Kd.int .i64) w Al l.length l) (hlc : l.length ≤ cl) (res : Option (List (List Int))) (hres : coversF N ar a b c l = res) :
  Calls Try.prog 32 #[.pointer (some ⟨bf, 0, none⟩), .slice Al l.length cl] w (CovPost w res) := by
 have HF := Aside0.mk hf
 have HR := Aside0.mk hr
 have HAL := Aside0.mk hal
 have HOK := Aside0.mk hok
 have HL := Aside0.mk hl
 have HLC := Aside0.mk hlc
 have HRES := Aside0.mk hres
 have hN := hok.hN
 clear hf hr hal hok hl hlc hres
 have x0 : w.cell? ⟨bf, 0, none⟩ = some (.int .i64 (N : Int)) := heap_cell HF.out rfl
 by_cases c0 : l.length = N
 rotate_left
 ·have h := HRES.out
  unfold coversF at h
  rw [if_pos c0] at h
  subst h
  have t1 : ((l.length : Int) != (N : Int)) = true := bne_iff_ne.2 (by omega)
  go_enter Try.func32, Try.ntmps32
  go_wp2_with fail
  go_ret2
  exact ⟨by simp, Below.refl _ _⟩
 have h := HRES.out
 unfold coversF at h
 rw [if_neg (fun q => q c0)] at h
 replace HRES := Aside0.mk h
 have HLN := Aside0.mk c0
 have hl2 := HL.out
 have hlc2 := HLC.out
 rw [c0] at hl2 hlc2
 replace HL := Aside0.mk hl2
 replace HLC := Aside0.mk hlc2
 clear h hl2 hlc2
 rw [c0]
 clear c0
 have t1 : ((N : Int) != (N : Int)) = false := bne_eq_false_iff_eq.2 rfl
 have mk1 := print_make_of (P := Try.prog) 27 3 (.int .i64 0) 8 Try.underlying27 info_int rfl (by decide) N (by omega)
 have x2 : w.cell? ⟨bf, 2, none⟩ = some (.slice A N cA) := heap_cell HF.out rfl
 have X3 : Aside0 (w.drew.cell? ⟨bf, 3, none⟩ = some (.int .i64 a)) := ⟨heap_cell HF.out rfl⟩
 have X4 : Aside0 (w.drew.cell? ⟨bf, 4, none⟩ = some (.int .i64 b)) := ⟨heap_cell HF.out rfl⟩
 have Y3 := X3
 have Y4 := X4
 go_enter Try.func32, Try.ntmps32
 go_upto_region 4 with (fail)
 clear x0 x2 t1
 obtain ⟨w0, hw0⟩ : ∃ w0, w0 = w.drew := ⟨_, rfl⟩
 rw [← hw0] at X3 X4
 have HW0 := Aside0.mk hw0
 clear hw0
 have HJ0 : Aside0 (Rs w0 w0 N a b none none) := ⟨Rs.start w0 N a b⟩
 refine start_ (n := 15) (S := fun w' => w'.cell? ⟨bf, 3, none⟩ = some (.int .i64 a) ∧ w'.cell? ⟨bf, 4, none⟩ = some (.int .i64 b)) (ds := [14]) (bm9 15 0) (by kernel_rfl) rfl rfl ⟨Y3.out, Y4.out⟩ (fun hHeld => ?_)
 refine pu9 0 25 (bm9 15 1) ?_
 refine pu9 1 26 (bm9 15 3) ?_
 refine pu9 3 28 (bm9 15 11) ?_
 refine pu9 4 29 (bm9 15 27) ?_
 refine pu9 5 30 (bm9 15 59) ?_
 refine pu9 7 32 (bm9 15 187) ?_
 refine pu9 8 33 (bm9 15 443) ?_
 refine pu9 9 34 (bm9 15 955) ?_
 refine tk29 6 31 (bm9 15 1019) hHeld ?_
 refine tk29 10 35 (bm9 15 2043) hHeld ?_
 refine join_ (σ := Nat × Nat) 3 (bm9 15 4095) (fun s => [(27, .slice (some ⟨s.1, 0, none⟩) N N), (36, .slice (some ⟨s.2, 0, none⟩) 2 2)]) (fun s w' => Rs w0 w' N a b (some s.1) (some s.2)) ?_ ?_
 rotate_left
 ·intro hCont
  refine two_ (i := 2) (j := 11) (Ni := some 27) (Nj := some 36) (bm9 15 2047) (bm9 15 4091) rfl rfl rfl rfl (by kernel_rfl) (by decide) (by decide) (fun K hK => ?_) (fun K hK => ?_)
  ·skip
   refine va9 ?_
   obtain ⟨w2, hw2⟩ : ∃ w2, w2 = (w.alloc (.cells (madeCells #[.int .i64 0] N) 3 (0, 0))).drew := ⟨_, rfl⟩
   obtain ⟨b2, hb2⟩ : ∃ b2, b2 = w.heap.size := ⟨_, rfl⟩
   have HJ2 : Aside0 (Rs w0 w2 N a b (some b2) none) := ⟨by rw [hw2, hb2]; have h := HJ0.out.made; first | exact h | (rw [HW0.out] at h ⊢; exact h)⟩
   rw [← hw2, ← hb2]
   clear hw2 hb2
   refine hK.out _ _ ⟨HJ2.out.cell X3.out, HJ2.out.cell X4.out⟩ (fun hHeld => ?_)
   clear hK K
   refine nm9 ?_
   refine one_ (i := 11) (N := some 36) (bm9 15 4095) rfl rfl (by kernel_rfl) (by decide) (fun K hK => ?_)
   refine va9 ?_
   obtain ⟨w11, hw11⟩ : ∃ w11, w11 = w2.alloc (.cells #[.int .i64 a, .int .i64 b] 3 (0, 0)) := ⟨_, rfl⟩
   obtain ⟨b11, hb11⟩ : ∃ b11, b11 = w2.heap.size := ⟨_, rfl⟩
   have HJ11 : Aside0 (Rs w0 w11 N a b (some b2) (some b11)) := ⟨by rw [hw11, hb11]; have h := HJ2.out.lit; first | exact h | (rw [HW0.out] at h ⊢; exact h)⟩
   rw [← hw11, ← hb11]
   clear hw11 hb11
   refine hK.out _ _ ⟨HJ11.out.cell X3.out, HJ11.out.cell X4.out⟩ (fun hHeld => ?_)
   clear hK K
   refine nm9 ?_
   exact nm7 (hCont (b2, b11) _ HJ11.out)
  ·skip
   refine va9 ?_
   obtain ⟨w11, hw11⟩ : ∃ w11, w11 = (w.alloc (.cells #[.int .i64 a, .int .i64 b] 3 (0, 0))).drew := ⟨_, rfl⟩
   obtain ⟨b11, hb11⟩ : ∃ b11, b11 = w.heap.size := ⟨_, rfl⟩
   have HJ11 : Aside0 (Rs w0 w11 N a b none (some b11)) := ⟨by rw [hw11, hb11]; have h := HJ0.out.lit; first | exact h | (rw [HW0.out] at h ⊢; exact h)⟩
   rw [← hw11, ← hb11]
   clear hw11 hb11
   refine hK.out _ _ ⟨HJ11.out.cell X3.out, HJ11.out.cell X4.out⟩ (fun hHeld => ?_)
   clear hK K
   refine nm9 ?_
   refine one_ (i := 2) (N := some 27) (bm9 15 4095) rfl rfl (by kernel_rfl) (by decide) (fun K hK => ?_)
   refine va9 ?_
   obtain ⟨w2, hw2⟩ : ∃ w2, w2 = w11.alloc (.cells (madeCells #[.int .i64 0] N) 3 (0, 0)) := ⟨_, rfl⟩
   obtain ⟨b2, hb2⟩ : ∃ b2, b2 = w11.heap.size := ⟨_, rfl⟩
   have HJ2 : Aside0 (Rs w0 w2 N a b (some b2) (some b11)) := ⟨by rw [hw2, hb2]; have h := HJ11.out.made; first | exact h | (rw [HW0.out] at h ⊢; exact h)⟩
   rw [← hw2, ← hb2]
   clear hw2 hb2
   refine hK.out _ _ ⟨HJ2.out.cell X3.out, HJ2.out.cell X4.out⟩ (fun hHeld => ?_)
   clear hK K
   refine nm9 ?_
   exact nm7 (hCont (b2, b11) _ HJ2.out)
 rintro ⟨b2, b11⟩ w13 hF
 have HJ13 : Aside0 (Rs w0 w13 N a b (some b2) (some b11)) := ⟨hF⟩
 clear hF
 have hHeld : w13.cell? ⟨bf, 3, none⟩ = some (.int .i64 a) ∧ w13.cell? ⟨bf, 4, none⟩ = some (.int .i64 b) := ⟨HJ13.out.cell X3.out, HJ13.out.cell X4.out⟩
 refine norm_ (a' := ?_) ?_ ?_
 rotate_left
 ·simp only [putAll, Act.put, List.setIfInBounds_toArray, List.set_cons_zero, List.set_cons_succ]
  rfl
 refine pu9 12 37 (bm9 15 8191) ?_
 refine one_ (i := 13) (N := some 38) (bm9 15 16383) rfl rfl (by kernel_rfl) (by decide) (fun K hK => ?_)
 refine va9 ?_
 refine hK.out _ _ ⟨(World.cell?_alloc_lt _ _ _ (World.block_lt_of_cell? _ _ hHeld.1)).trans hHeld.1, (World.cell?_alloc_lt _ _ _ (World.block_lt_of_cell? _ _ hHeld.2)).trans hHeld.2⟩ (fun hHeld => ?_)
 clear hK K
 refine nm9 ?_
 refine pu9 14 7 (bm9 15 32767) ?_
 refine done_ (by kernel_rfl) ?_
 have HBZ : Aside0 (Below w.heap.size w w0) := ⟨by rw [HW0.out]; exact (Below.refl _ _).drew⟩
 obtain ⟨bp, hbp⟩ : ∃ k, k = w13.heap.size := ⟨_, rfl⟩
 obtain ⟨wz, hwz⟩ : ∃ wz, wz = w13.alloc (.cells #[.pointer (some ⟨bf, 0, none⟩), .slice (some ⟨b2, 0, none⟩) N N, .slice (some ⟨b11, 0, none⟩) 2 2] 91 (0, 0)) := ⟨_, rfl⟩
 have HRM : Aside0 (wz.heap[bp]? = some (.cells #[.pointer (some ⟨bf, 0, none⟩), .slice (some ⟨b2, 0, none⟩) N N, .slice (some ⟨b11, 0, none⟩) 2 2] 91 (0, 0))) := ⟨by rw [hwz, hbp]; exact heap_last _ _⟩
 have HRK : Aside0 (IRow wz b2 (List.replicate N 0)) := ⟨by rw [hwz]; exact heap_old (HJ13.out.rr b2 rfl).1 _⟩
 have HSH : Aside0 (IRow wz b11 [a, b]) := ⟨by rw [hwz]; exact heap_old (HJ13.out.ss b11 rfl).1 _⟩
 have HOR : Aside0 (w.heap.size ≤ b2 ∧ w.heap.size ≤ b11 ∧ b2 < bp ∧ b11 < bp ∧ b2 ≠ b11) := ⟨by
  have h1 := HJ13.out.rr b2 rfl
  have h2 := HJ13.out.ss b11 rfl
  have h3 := lt_of h1.1
  have h4 := lt_of h2.1
  have h5 := HBZ.out.size
  rw [hbp]
  exact ⟨by omega, by omega, h3, h4, HJ13.out.ne _ _ rfl rfl⟩⟩
 have HBY : Aside0 (Below w.heap.size w wz) := ⟨by
  rw [hwz]
  have h := HBZ.out.trans (HJ13.out.old.mono HBZ.out.size)
  exact h.alloc h.size _⟩
 rw [← hwz, ← hbp]
 clear hwz hbp HJ13 HJ0 hHeld HBZ HW0 X3 X4 Y3 Y4 mk1
 have HFR0 : Aside0 (Mem.Frame (fun k => k = b2) wz wz) := ⟨Mem.Frame.refl _ _⟩
 have HRK0 : Aside0 (IRow wz b2 (filTo N 0)) := ⟨by rw [← filTo_zero]; exact HRK.out⟩
 have x1 : wz.cell? ⟨bp, 1, none⟩ = some (.slice (some ⟨b2, 0, none⟩) N N) := heap_cell HRM.out rfl
 go_wp2_with fail
 clear x1 HRK
 go_loopw [44] (fun y ws => ∃ k : Nat, y = .int .i64 (k : Int) ∧ k ≤ N ∧ Aside0 (IRow ws b2 (filTo N k)) ∧ Aside0 (Mem.Frame (fun k => k = b2) wz ws)) (fun y _ => N - (intOf y).toNat)
 case atStart => exact ⟨0, rfl, by omega, HRK0, HFR0⟩
 case round =>
  clear HRK0 HFR0
  obtain ⟨k, rfl, hk, HRK, HFR⟩ := hrel
  by_cases hlt : k < N
  ·have s1 : decide ((k : Int) < (N : Int)) = true := decide_eq_true (by omega)
   have gk : (k : Int) < (N : Int) := by omega
   have x1 : wr.cell? ⟨bp, 1, none⟩ = some (.slice (some ⟨b2, 0, none⟩) N N) := heap_cell (HFR.out.blk HRM.out (by have := HOR.out; show ¬ bp = b2; omega)) rfl
   have y1 := HRK.out.cell (i := k) (by rw [filTo_length]; exact hlt)
   have f1 := HRK.out.free k
   have HRK2 : Aside0 (IRow (wr.setCell ⟨b2, k, none⟩ (.int .i64 (-1))) b2 (filTo N (k + 1))) := ⟨by rw [← filTo_set hlt]; exact HRK.out.put k (-1)⟩
   have HFR2 : Aside0 (Mem.Frame (fun k => k = b2) wz (wr.setCell ⟨b2, k, none⟩ (.int .i64 (-1)))) := ⟨HFR.out.setCell (S := fun k => k = b2) (p := ⟨b2, k, none⟩) rfl _⟩
   clear HRK HFR
   go_wp2_with fail
   clear x1 y1 f1 s1
   go_roundw
   case rel => exact ⟨k + 1, by go_num, by omega, HRK2, HFR2⟩
   case measure => simp [intOf]; omega
  ·obtain rfl : k = N := by omega
   have s1 : decide ((k : Int) < (k : Int)) = false := decide_eq_false (by omega)
   clear hlt hk
   have HRK1 : Aside0 (IRow wr b2 (List.replicate k (-1))) := ⟨by rw [← filTo_all]; exact HRK.out⟩
   have HFR1 := HFR
   have HRT0 : Aside0 (rankTo k l 0 = some (List.replicate k (-1))) := ⟨rfl⟩
   clear HRK HFR
   go_wp2_with fail
   clear s1
   go_loopw [56] (fun y ws => ∃ (i : Nat) (rk : List Int), y = .int .i64 (i : Int) ∧ i ≤ k ∧ Aside0 (rankTo k l i = some rk) ∧ Aside0 (IRow ws b2 rk) ∧ Aside0 (Mem.Frame (fun k => k = b2) wz ws)) (fun y _ => k - (intOf y).toNat)
   case atStart => exact ⟨0, _, rfl, by omega, HRT0, HRK1, HFR1⟩
   case round =>
    clear HRT0 HRK1 HFR1
    obtain ⟨i, rk, rfl, hi, HRT, HRK, HFR⟩ := hrel
    have HBW : Aside0 (Below w.heap.size w wr) := ⟨HBY.out.trans (HFR.out.below HBY.out.size (fun q hq => by have := HOR.out; omega))⟩
    obtain ⟨hrkl, hrin⟩ := rankTo_in HRT.out
    by_cases hlt : i < k
    ·have s1 : decide ((i : Int) < (k : Int)) = true := decide_eq_true (by omega)
     obtain ⟨adl, eL, z1⟩ := Kd.at_int (Kd.C_below HL.out HBW.out) (i : Int) (by omega) (by omega)
     subst eL
     rw [gi_rd, Int.toNat_natCast] at z1
     obtain ⟨x, hx⟩ : ∃ x, x = gi l i := ⟨_, rfl⟩
     rw [← hx] at z1
     have hnext : ∀ q : x < 0 ∨ (k : Int) ≤ x ∨ 0 ≤ gi rk x.toNat, rankTo k l (i + 1) = none := fun q => by
      show (rankTo k l i).bind _ = none
      rw [HRT.out]
      show (if _ then _ else _) = none
      rw [← hx, if_pos q]
     have hno : ∀ q : x < 0 ∨ (k : Int) ≤ x ∨ 0 ≤ gi rk x.toNat, res = none := fun q => by
      have h := rankTo_none (hnext q) (k - (i + 1))
      rw [show i + 1 + (k - (i + 1)) = k by omega] at h
      have h2 := HRES.out
      rw [h] at h2
      exact h2.symm
     have HX := Aside0.mk hx
     have HNO := Aside0.mk hno
     clear hnext hno hx hrin
     by_cases c1 : x < 0
     ·have t1 : decide (x < 0) = true := decide_eq_true c1
      have hres := HNO.out (.inl c1)
      subst hres
      clear c1 hrkl
      go_wp2_with fail
      go_ret2
      exact ⟨by simp, HBW.out⟩
     have t1 : decide (x < 0) = false := decide_eq_false c1
     obtain ⟨u, rfl⟩ := Int.eq_ofNat_of_zero_le (show 0 ≤ x by omega)
     by_cases c2 : (k : Int) ≤ (u : Int)
     ·have t2 : decide ((u : Int) ≥ (k : Int)) = true := decide_eq_true c2
      have t3 : decide ((k : Int) ≤ (u : Int)) = true := decide_eq_true c2
      have t4 : k ≤ u := by omega
      have hres := HNO.out (.inr (.inl c2))
      subst hres
      clear c1 c2 hrkl
      go_wp2_with fail
      go_ret2
      exact ⟨by simp, HBW.out⟩
     have t2 : decide ((u : Int) ≥ (k : Int)) = false := decide_eq_false c2
     have t3 : decide ((k : Int) ≤ (u : Int)) = false := decide_eq_false c2
     have t4 : ¬ k ≤ u := by omega
     have gu : (u : Int) < (k : Int) := by omega
     have huk : u < k := by omega
     have x1 : wr.cell? ⟨bp, 1, none⟩ = some (.slice (some ⟨b2, 0, none⟩) k k) := heap_cell (HFR.out.blk HRM.out (by have := HOR.out; show ¬ bp = b2; omega)) rfl
     have y1 := HRK.out.cell (i := u) (by omega)
     have f1 := HRK.out.free u
     obtain ⟨y, hy⟩ : ∃ y, y = gi rk u := ⟨_, rfl⟩
     rw [← hy] at y1
     by_cases c3 : 0 ≤ y
     ·have t5 : decide (y ≥ 0) = true := decide_eq_true c3
      have t6 : decide (0 ≤ y) = true := decide_eq_true c3
      have hres := HNO.out (.inr (.inr (by rw [Int.toNat_natCast, ← hy]; exact c3)))
      subst hres
      clear c1 c2 c3 hrkl hy f1
      go_wp2_with fail
      go_ret2
      exact ⟨by simp, HBW.out⟩
     have t5 : decide (y ≥ 0) = false := decide_eq_false c3
     have t6 : decide (0 ≤ y) = false := decide_eq_false c3
     have HRT2 : Aside0 (rankTo k l (i + 1) = some (rk.set u (i : Int))) := ⟨by
      show (rankTo k l i).bind _ = _
      rw [HRT.out]
      show (if _ then _ else _) = _
      rw [← HX.out, if_neg (by rw [Int.toNat_natCast, ← hy]; omega), Int.toNat_natCast]⟩
     have HRK2 : Aside0 (IRow (wr.setCell ⟨b2, u, none⟩ (.int .i64 (i : Int))) b2 (rk.set u (i : Int))) := ⟨HRK.out.put u (i : Int)⟩
     have HFR2 : Aside0 (Mem.Frame (fun k => k = b2) wz (wr.setCell ⟨b2, u, none⟩ (.int .i64 (i : Int)))) := ⟨HFR.out.setCell (S := fun k => k = b2) (p := ⟨b2, u, none⟩) rfl _⟩
     clear HRK HFR HBW HRT hrkl hy c1 c2 c3
     go_wp2_with fail
     clear x1 y1 f1 s1 z1 t1 t2 t3 t4 t5 t6
     go_roundw
     case rel => exact ⟨i + 1, _, by go_num, by omega, HRT2, HRK2, HFR2⟩
     case measure => simp [intOf]; omega
    ·obtain rfl : i = k := by omega
     have s1 : decide ((i : Int) < (i : Int)) = false := decide_eq_false (by omega)
     have hres := HRES.out
     rw [HRT.out] at hres
     replace hres : (if gi l 0 ≠ a ∨ gi l 1 ≠ b ∨ gi l (i - 1) ≠ c then none else (laysTo ar rk i a b l (i - 2)).map (·.1)) = res := hres
     obtain ⟨adl, eL, z0⟩ := Kd.at_int (Kd.C_below HL.out HBW.out) ((0 : Nat) : Int) (by omega) (by omega)
     subst eL
     obtain ⟨_, eL, z1⟩ := Kd.at_int (Kd.C_below HL.out HBW.out) ((1 : Nat) : Int) (by omega) (by omega)
     injection eL with eL
     subst eL
     obtain ⟨i1, hi1⟩ : ∃ j, j = i - 1 := ⟨_, rfl⟩
     obtain ⟨_, eL, z2⟩ := Kd.at_int (Kd.C_below HL.out HBW.out) (i1 : Int) (by omega) (by omega)
     injection eL with eL
     subst eL
     rw [gi_rd, Int.toNat_natCast] at z0 z1 z2
     rw [← hi1] at hres
     have m1 : IntKind.i64.wrap ((i : Int) - 1) = (i1 : Int) := by rw [IntWalk.i64_in _ (by omega)]; omega
     have gi1 : (i1 : Int) < (i : Int) := by omega
     have gi1' : i1 < i := by omega
     have g0 : (0 : Int) < (i : Int) := by omega
     have g0' : 0 < i := by omega
     have g1 : (1 : Int) < (i : Int) := by omega
     have g1' : 1 < i := by omega
     obtain ⟨y0, hy0⟩ : ∃ y, y = gi l 0 := ⟨_, rfl⟩
     obtain ⟨y1, hy1⟩ : ∃ y, y = gi l 1 := ⟨_, rfl⟩
     obtain ⟨y2, hy2⟩ : ∃ y, y = gi l i1 := ⟨_, rfl⟩
     rw [← hy0] at z0
     rw [← hy1] at z1
     rw [← hy2] at z2
     rw [← hy0, ← hy1, ← hy2] at hres
     have z0' : wr.cell? adl = some (.int .i64 y0) := z0
     have z1' : wr.cell? ⟨adl.block, adl.off + 1, none⟩ = some (.int .i64 y1) := z1
     have x3 : wr.cell? ⟨bf, 3, none⟩ = some (.int .i64 a) := heap_cell ((HBW.out.block _ (lt_of HF.out)).trans HF.out) rfl
     have x4 : wr.cell? ⟨bf, 4, none⟩ = some (.int .i64 b) := heap_cell ((HBW.out.block _ (lt_of HF.out)).trans HF.out) rfl
     have x5 : wr.cell? ⟨bf, 5, none⟩ = some (.int .i64 c) := heap_cell ((HBW.out.block _ (lt_of HF.out)).trans HF.out) rfl
     have HY := Aside0.mk (And.intro hy0 (And.intro hy1 (And.intro hy2 hi1)))
     replace HRES := Aside0.mk hres
     have HRIN := Aside0.mk hrin
     clear hy0 hy1 hy2 hi1 hres hrin hlt hi
     by_cases c1 : y0 = a
     rotate_left
     ·have t1 : (y0 != a) = true := bne_iff_ne.2 c1
      have hres := HRES.out
      rw [if_pos (.inl c1)] at hres
      subst hres
      clear c1
      go_wp2_with fail
      go_big_quiet (fail)
      go_wp2_with fail
      go_ret2
      exact ⟨by simp, below_drewN' HBW.out _⟩
     have t1 : (y0 != a) = false := bne_eq_false_iff_eq.2 c1
     by_cases c2 : y1 = b
     rotate_left
     ·have t2 : (y1 != b) = true := bne_iff_ne.2 c2
      have hres := HRES.out
      rw [if_pos (.inr (.inl c2))] at hres
      subst hres
      clear c1 c2
      go_wp2_with fail
      go_big_quiet (fail)
      go_wp2_with fail
      go_ret2
      exact ⟨by simp, below_drewN' HBW.out _⟩
     have t2 : (y1 != b) = false := bne_eq_false_iff_eq.2 c2
     by_cases c3 : y2 = c
     rotate_left
     ·have t3 : (y2 != c) = true := bne_iff_ne.2 c3
      have hres := HRES.out
      rw [if_pos (.inr (.inr c3))] at hres
      subst hres
      clear c1 c2 c3
      go_wp2_with fail
      go_big_quiet (fail)
      go_wp2_with fail
      go_ret2
      exact ⟨by simp, below_drewN' HBW.out _⟩
     have t3 : (y2 != c) = false := bne_eq_false_iff_eq.2 c3
     have hres := HRES.out
     rw [if_neg (by rintro (q | q | q); exact q c1; exact q c2; exact q c3)] at hres
     replace HRES := Aside0.mk hres
     clear c1 c2 c3 hres
     go_wp2_with fail
     go_big_quiet (fail)
     have HBQ : Aside0 (Below w.heap.size w (wr.drewN nq)) := ⟨below_drewN' HBW.out nq⟩
     have HFQ : Aside0 (Mem.Frame (fun k => k = b2) wz (wr.drewN nq)) := ⟨HFR.out.drewN nq⟩
     have HRQ : Aside0 (IRow (wr.drewN nq) b2 rk) := HRK
     generalize wr.drewN nq = wq at HBQ HFQ HRQ ⊢
     have mk2 := print_make_of (P := Try.prog) 25 27 (.slice none 0 0) 24 Try.underlying25 info_ints rfl (by decide) i (by omega)
     obtain ⟨X2, q2, hC2⟩ := from_reads (a := 2) (c := cl) (l := l) (A := some adl) (w := w) (by rw [HLN.out]; exact HL.out) (by rw [HLN.out]; exact HLC.out) (by rw [HLN.out]; omega)
     rw [HLN.out] at q2 hC2
     obtain ⟨i2, hi2⟩ : ∃ j, j = i - 2 := ⟨_, rfl⟩
     rw [← hi2] at q2 hC2
     have HC2 := Aside0.mk hC2
     have hres := HRES.out
     rw [← hi2] at hres
     replace HRES := Aside0.mk hres
     have hi2b : i2 + 2 = i := by omega
     have hi2c : i2 ≤ 1048576 := by omega
     have q2' : ∀ W : World, (Instr.slice 27 (.slice (some adl) i cl) (some (.int .i64 2)) none none).run Try.prog W = .ok (.slice X2 i2 (cl - 2)) W := q2
     have h2i : 2 ≤ i := by omega
     clear z0 z1 z2 z0' z1' x3 x4 x5 t1 t2 t3 m1 gi1 gi1' g0 g0' g1 g1' hres hi2 hC2 q2 HFR HRK HBW HRT
     go_upto_region 20 with (fail)
     obtain ⟨bo, hbo⟩ : ∃ k, k = wq.heap.size := ⟨_, rfl⟩
     obtain ⟨wo, hwo⟩ : ∃ wo, wo = wq.alloc (.cells (madeCells #[.slice none 0 0] i) 27 (0, 0)) := ⟨_, rfl⟩
     have hb19 : Below wq.heap.size wq wo := by rw [hwo]; exact (Below.refl _ _).alloc (Nat.le_refl _) _
     have HRW0 : Aside0 (Rows2 wo (bo + 1) bo (List.replicate i (.slice none 0 0)) (List.replicate i [])) := ⟨by rw [hwo, made_nil, hbo]; exact Rows2.start wq i⟩
     have HOR2 : Aside0 (bp < bo ∧ b2 < bo ∧ b11 < bo ∧ bo < wo.heap.size) := ⟨by
      have h1 := HOR.out
      have h2 := lt_of HRM.out
      have h3 := HFQ.out.size
      have h4 := lt_of HRW0.out.out
      rw [hbo]
      rw [hbo] at h4
      exact ⟨by omega, by omega, by omega, h4⟩⟩
     have hnp : ¬ bp = b2 := by have := HOR.out; omega
     have HRIM0 : Aside0 (Rim w wo ⟨bp, bf, b2, i, A, cA, gE⟩ ar a b c rk [a, b] (some ⟨b11, 0, none⟩) 2) := ⟨by
      have h1 := HOR.out
      have hsh : IRow wo b11 [a, b] := (hb19.block _ (lt_of (HFQ.out.blk HSH.out (show ¬ b11 = b2 by omega)))).trans (HFQ.out.blk HSH.out (show ¬ b11 = b2 by omega))
      refine ⟨HBQ.out.trans (hb19.mono HBQ.out.size), HF.out, HR.out, HAL.out, ?_, h1.1, ?_, ?_, hrkl, row_reads hsh (by simp), Nat.le_refl _, fun g e => ?_, hnp⟩
      ·show w.heap.size ≤ bp
       omega
      ·exact (hb19.block _ (lt_of (HFQ.out.blk HRM.out hnp))).trans (HFQ.out.blk HRM.out hnp)
      ·exact (hb19.block _ (lt_of HRQ.out)).trans HRQ.out
      ·obtain rfl := Option.some.inj e
       have h2 := HOR2.out
       exact ⟨h1.2.1, by show b11 < _; omega, by show b11 ≠ bp; omega⟩⟩
     have HNB0 : Aside0 (∀ g, some (⟨b11, 0, none⟩ : Addr) = some g → g.block ≠ bo) := ⟨fun g e => by
      obtain rfl := Option.some.inj e
      have := HOR2.out
      show b11 ≠ bo
      omega⟩
     have HLT0 : Aside0 (laysTo ar rk i a b l 0 = some (List.replicate i [], [a, b])) := ⟨rfl⟩
     rw [← hbo, ← hwo]
     clear mk2 hbo hwo hb19 hnp HBQ HFQ HRQ HRM HSH hrkl
     obtain ⟨B, hB⟩ : ∃ B : Rl, B = ⟨bp, bf, b2, i, A, cA, gE⟩ := ⟨_, rfl⟩
     have HBP : Aside0 (B.p = bp ∧ B.f = bf ∧ B.r = b2 ∧ B.N = i) := ⟨by rw [hB]; exact ⟨rfl, rfl, rfl, rfl⟩⟩
     rw [← hB] at HRIM0
     clear hB
     rw [← HBP.out.1]
     go_wp2_with fail
     clear q2'
     go_loopw [121] (fun y ws => ∃ (k : Nat) (out : List (List Int)) (sh : List Int) (As : Option Addr) (cs : Nat) (vs : List Value), y = .int .i64 (k : Int) ∧ k ≤ i2 ∧ Aside0 (laysTo ar rk i a b l k = some (out, sh)) ∧ Aside0 (Rim w ws B ar a b c rk sh As cs) ∧ Aside0 (Rows2 ws (bo + 1) bo vs out) ∧ Aside0 (∀ g, As = some g → g.block ≠ bo)) (fun y _ => i2 - (intOf y).toNat)
     case atStart => exact ⟨0, _, _, _, _, _, rfl, by omega, HLT0, HRIM0, HRW0, HNB0⟩
     case round =>
      clear HLT0 HRIM0 HRW0 HNB0
      obtain ⟨k, out, sh, As, cs, vs, rfl, hk, HLT, HRI, HRW, HNB⟩ := hrel
      by_cases hlt : k < i2
      ·have s1 : decide ((k : Int) < (i2 : Int)) = true := decide_eq_true (by omega)
       obtain ⟨hol, hsl, hshr⟩ := laysTo_in ha hb (fun j hj => HRIN.out j (by omega)) HLT.out
       obtain ⟨adx, eX, z1⟩ := Kd.at_int (Kd.C_below HC2.out HRI.out.old) (k : Int) (by omega) (by omega)
       subst eX
       have hgd : gi (l.drop 2) k = gi l (k + 2) := by
        unfold gi
        rw [List.getD_eq_getElem?_getD, List.getD_eq_getElem?_getD, List.getElem?_drop, Nat.add_comm]
       rw [gi_rd, Int.toNat_natCast, hgd] at z1
       obtain ⟨r0, r1⟩ := HRIN.out (k + 2) (by omega)
       obtain ⟨v, hv⟩ := Int.eq_ofNat_of_zero_le r0
       rw [hv] at z1
       have hvi : v < B.N := by rw [HBP.out.2.2.2]; omega
       have HV := Aside0.mk hv
       obtain ⟨fo, hfo⟩ : ∃ fo, fo = layF ar rk sh v := ⟨_, rfl⟩
       have HFO := Aside0.mk hfo
       have HSHR : Aside0 (∀ j, j < sh.length → 0 ≤ gi sh j ∧ gi sh j < (B.N : Int)) := ⟨by rw [HBP.out.2.2.2]; exact hshr⟩
       have HOKB : Aside0 (Ok B.N ar) := ⟨by rw [HBP.out.2.2.2]; exact HOK.out⟩
       have hslb : sh.length ≤ 9000000 := by omega
       have HOL := Aside0.mk hol
       clear hgd hv hfo hshr hol hsl r0 r1
       go_wp2_with fail
       refine (lay_calls HRI.out HOKB.out v hvi HSHR.out hslb fo HFO.out.symm).mono ?_
       rintro e' w6 hpost
       have hnxt : laysTo ar rk i a b l (k + 1) = fo.bind fun u => some (out.set (k + 2) u.1, u.2) := by
        show (laysTo ar rk i a b l k).bind _ = _
        rw [HLT.out]
        show (layF ar rk sh (gi l (k + 2)).toNat).bind _ = _
        rw [HV.out, Int.toNat_natCast, ← HFO.out]
       cases fo with
       | none =>
        obtain ⟨rfl, hb6⟩ := hpost
        have h := laysTo_none (k := k + 1) (by rw [hnxt]; rfl) (i2 - (k + 1))
        rw [show k + 1 + (i2 - (k + 1)) = i2 by omega] at h
        have hres := HRES.out
        rw [h] at hres
        replace hres : none = res := hres
        subst hres
        have HBL : Aside0 (Below w.heap.size w w6) := ⟨HRI.out.old.trans (hb6.mono HRI.out.old.size)⟩
        clear h hb6 hnxt HFO
        go_wp2_with fail
        go_ret2
        exact ⟨by simp, HBL.out⟩
       | some t =>
        obtain ⟨feet, sh'⟩ := t
        obtain ⟨u, As', cs', rfl, hRf, hRim, hFr, hAs⟩ := hpost
        obtain ⟨Af, cf, rfl⟩ := Kd.R_slice hRf
        obtain ⟨u, hu⟩ : ∃ u, u = Value.slice Af feet.length cf := ⟨_, rfl⟩
        rw [← hu] at hRf
        have HLT2 : Aside0 (laysTo ar rk i a b l (k + 1) = some (out.set (k + 2) feet, sh')) := ⟨hnxt⟩
        have hnS : ¬ bo = B.p := by have := HOR2.out; have := HBP.out.1; omega
        have hltS : ∀ q, q = B.p → q < bo + 1 := fun q hq => by have := HOR2.out; have := HBP.out.1; omega
        have HRW1 := Aside0.mk (Rows2.mv HRW.out hFr hnS hltS)
        have HRW2 : Aside0 (Rows2 (w6.setCell ⟨bo, k + 2, none⟩ u) (bo + 1) bo (vs.set (k + 2) u) (out.set (k + 2) feet)) := ⟨Rows2.putF HRW.out hFr hnS hltS (by rw [HOL.out]; omega) (Kd.own_of_R hRf)⟩
        have hbo1 : bo < wr.heap.size := lt_of HRW.out.out
        have hne2 : ¬ B.p = bo := fun q => hnS q.symm
        have hne3 : ¬ B.r = bo := fun q => by have := HOR2.out; have := HBP.out.2.2.1; omega
        have hsc : Mem.Frame (fun q => q = bo) w6 (w6.setCell ⟨bo, k + 2, none⟩ u) := (Mem.Frame.refl (fun q => q = bo) w6).setCell (S := fun q => q = bo) (p := ⟨bo, k + 2, none⟩) rfl _
        have hwlo : w.heap.size ≤ bo := by have := HOR2.out; have := HOR.out; omega
        have HRI2 : Aside0 (Rim w (w6.setCell ⟨bo, k + 2, none⟩ u) B ar a b c rk sh' As' cs') := ⟨hRim.fr hsc (fun q hq => by have : q = bo := hq; omega) hne2 hne3 (fun g e => by have := hAs g e; show ¬ g.block = bo; omega)⟩
        have HNB2 : Aside0 (∀ g, As' = some g → g.block ≠ bo) := ⟨fun g e => by have := hAs g e; omega⟩
        have y1 := HRW1.out.cell (j := k + 2) (by rw [HOL.out]; omega)
        have f1 := HRW1.out.free (k + 2)
        obtain ⟨k2, hk2⟩ : ∃ k2, k2 = k + 2 := ⟨_, rfl⟩
        have m1 : IntKind.i64.wrap ((k : Int) + 2) = (k2 : Int) := by rw [IntWalk.i64_in _ (by omega)]; omega
        have gk2 : (k2 : Int) < (i : Int) := by omega
        have gk2' : k2 < i := by omega
        rw [← hk2] at y1 f1 HRW2 HRI2 HLT2
        obtain ⟨Mf, hMf⟩ : ∃ M, M = feet.length := ⟨_, rfl⟩
        rw [hu, ← hMf] at HRW2 HRI2
        rw [← hMf]
        clear hu hMf
        clear hnxt hRf hRim hFr hAs hnS hltS HRW HRW1 hbo1 hne2 hne3 hsc hwlo HRI HLT HNB HFO hk2
        go_wp2_with fail
        clear y1 f1 m1 gk2 gk2' s1 z1
        go_roundw
        case rel => exact ⟨k + 1, _, sh', As', cs', _, by go_num, by omega, HLT2, HRI2, HRW2, HNB2⟩
        case measure => simp [intOf]; omega
      ·obtain rfl : k = i2 := by omega
       have s1 : decide ((k : Int) < (k : Int)) = false := decide_eq_false (by omega)
       have hres := HRES.out
       rw [HLT.out] at hres
       replace hres : some out = res := hres
       subst hres
       obtain ⟨hol, _, _⟩ := laysTo_in ha hb (fun j hj => HRIN.out j (by omega)) HLT.out
       have HS := Aside0.mk (Rows2.tells (base := w.heap.size) HRW.out (by have := HOR2.out; have := HOR.out; omega) (by have := HOR2.out; have := HOR.out; omega) (by rw [hol]; omega))
       have hs := HS.out
       rw [hol] at hs
       replace HS := Aside0.mk hs
       have HBF := HRI.out.old
       clear hol hs hlt hk
       go_wp2_with fail
       go_ret2
       exact ⟨.slice (some ⟨bo, 0, none⟩) i i, by simp, HS.out, HBF⟩
end Peel
namespace Graph
open Mem Rot
theorem from04_calls (n : Int) (A : Option Addr) (c : Nat) (es : List (Int × Int)) (h : Nat) (w : World) (he : Pairs w A es) (hl : es.length ≤ 4194304) (hh : h < 2 * es.length) :
  Calls Try.prog 51 #[.agg #[.int .i64 n, .slice A es.length c], .int .i64 (h : Int)] w fun e w' => e = .returned (.int .i64 (gi (froms es) h)) ∧ Below w.heap.size w w' := by
 have HE := Aside0.mk he
 have HB := Aside0.mk ((Below.refl w.heap.size w).alloc (Nat.le_refl _) (.cells #[.int .i64 n, .slice A es.length c] 24 (0, 0)))
 have HX := Aside0.mk (heap_last w (.cells #[.int .i64 n, .slice A es.length c] 24 (0, 0)))
 clear he
 have x0 : (w.alloc (.cells #[.int .i64 n, .slice A es.length c] 24 (0, 0))).cell? ⟨w.heap.size, 0, none⟩ = some (.int .i64 n) := heap_cell HX.out rfl
 have x1 : (w.alloc (.cells #[.int .i64 n, .slice A es.length c] 24 (0, 0))).cell? ⟨w.heap.size, 1, none⟩ = some (.slice A es.length c) := heap_cell HX.out rfl
 by_cases hpar : h % 2 = 0
 ·obtain ⟨i, hi⟩ : ∃ i, h = 2 * i := ⟨h / 2, by omega⟩
  have hie : i < es.length := by omega
  have HV := Aside0.mk (froms_two es i hie)
  obtain ⟨ad, eA, y1, y2⟩ := (HE.out.below HB.out) i hie
  subst eA
  obtain ⟨a, ha⟩ : ∃ a : Int, a = (h : Int) := ⟨_, rfl⟩
  have h0 : 0 ≤ a := by omega
  have h1 : a ≤ 8388608 := by omega
  have q1 : a % 2 = 0 := by omega
  have q2 : a / 2 = (i : Int) := by omega
  have HI := Aside0.mk hi
  rw [← ha]
  clear ha hi hpar
  go_enter Try.func51, Try.ntmps51
  go_wp2_with fail
  go_ret
  exact ⟨by rw [HI.out, HV.out.1]; rfl, HB.out⟩
 ·obtain ⟨i, hi⟩ : ∃ i, h = 2 * i + 1 := ⟨h / 2, by omega⟩
  have hie : i < es.length := by omega
  have HV := Aside0.mk (froms_two es i hie)
  obtain ⟨ad, eA, y1, y2⟩ := (HE.out.below HB.out) i hie
  subst eA
  obtain ⟨a, ha⟩ : ∃ a : Int, a = (h : Int) := ⟨_, rfl⟩
  have h0 : 0 ≤ a := by omega
  have h1 : a ≤ 8388608 := by omega
  have q1 : a % 2 = 1 := by omega
  have q2 : a / 2 = (i : Int) := by omega
  have HI := Aside0.mk hi
  rw [← ha]
  clear ha hi hpar
  go_enter Try.func51, Try.ntmps51
  go_wp2_with fail
  go_ret
  exact ⟨by rw [HI.out, HV.out.2]; rfl, HB.out⟩
def check13 (N : Nat) (es : List (Int × Int)) (r : List (List Int)) : Int := if r.length = N then (rows (froms es) (degs es N) 0 r (List.replicate (2 * es.length) false)).2 else 110
theorem check13_calls (N : Nat) (A : Option Addr) (c : Nat) (es : List (Int × Int)) (A1 : Option Addr) (c1 : Nat) (r : List (List Int)) (w : World) (he : Pairs w A es) (hm : es.length ≤ 4194304) (hN : N ≤ 1048576) (hr : Kd.C KR w A1 r.length r) (hsm : ∀ v, v < r.length → (gl r v).length ≤ 18000000000000)
  (outs : List (List Int)) (hol : outs.length = N) (hod : ∀ v : Nat, v < N → (gl outs v).length = cntF (froms es) (froms es).length (v : Int))
  (ho : ∀ W, Below w.heap.size w W → Calls Try.prog 41 #[.agg #[.int .i64 (N : Int), .slice A es.length c]] W fun e w' => ∃ V, e = .returned V ∧ Kd.S KR 27 w' W.heap.size (fun _ => True) V outs ∧ Below W.heap.size W w') :
  Calls Try.prog 34 #[.agg #[.int .i64 (N : Int), .slice A es.length c], .slice A1 r.length c1] w fun e w' => e = .returned (.int .i64 (check13 N es r)) ∧ Below w.heap.size w w' := by
 have HE := Aside0.mk he
 have HR := Aside0.mk hr
 have HSM := Aside0.mk hsm
 have HOD := Aside0.mk hod
 have HOL := Aside0.mk hol
 have HOC := Aside0.mk ho
 have HB := Aside0.mk ((Below.refl w.heap.size w).alloc (Nat.le_refl _) (.cells #[.int .i64 (N : Int), .slice A es.length c] 24 (0, 0)))
 have HX := Aside0.mk (heap_last w (.cells #[.int .i64 (N : Int), .slice A es.length c] 24 (0, 0)))
 have x0 : (w.alloc (.cells #[.int .i64 (N : Int), .slice A es.length c] 24 (0, 0))).cell? ⟨w.heap.size, 0, none⟩ = some (.int .i64 (N : Int)) := heap_cell HX.out rfl
 have x1 : (w.alloc (.cells #[.int .i64 (N : Int), .slice A es.length c] 24 (0, 0))).cell? ⟨w.heap.size, 1, none⟩ = some (.slice A es.length c) := heap_cell HX.out rfl
 clear he hr hsm hol hod ho
 obtain ⟨RES, hRES⟩ : ∃ RES, RES = check13 N es r := ⟨_, rfl⟩
 rw [← hRES]
 have HRES := Aside0.mk hRES
 clear hRES
 by_cases hlen : r.length = N
 rotate_left
 ·have HG : Aside0 (RES = 110) := ⟨by rw [HRES.out]; unfold check13; rw [if_neg hlen]⟩
  have t0 : ((r.length : Int) != (N : Int)) = true := bne_iff_ne.2 (by omega)
  clear hlen
  go_enter Try.func34, Try.ntmps34
  go_wp2_with fail
  go_ret
  exact ⟨by rw [HG.out]; rfl, HB.out⟩
 obtain ⟨RR, hRR⟩ : ∃ RR, RR = rows (froms es) (degs es N) 0 r (List.replicate (2 * es.length) false) := ⟨_, rfl⟩
 have HG : Aside0 (RES = RR.2) := ⟨by rw [HRES.out]; unfold check13; rw [if_pos hlen, hRR]⟩
 obtain ⟨fr, hfr⟩ : ∃ fr, fr = froms es := ⟨_, rfl⟩
 obtain ⟨ds, hds⟩ : ∃ ds, ds = degs es N := ⟨_, rfl⟩
 have HDS : Aside0 (∀ v, v < N → gi ds v = ((gl outs v).length : Int)) := ⟨fun v hv => by rw [hds, gi_degs hv, HOD.out v hv]⟩
 have HFL : Aside0 (fr.length = 2 * es.length) := ⟨by rw [hfr]; exact froms_length es⟩
 have HFR := Aside0.mk hfr
 obtain ⟨M, hM⟩ : ∃ M, M = 2 * es.length := ⟨_, rfl⟩
 have hMb : M ≤ 8388608 := by omega
 have hMe : (M : Int) = 2 * (es.length : Int) := by omega
 have q : IntKind.i64.wrap (2 * (es.length : Int)) = (M : Int) := by rw [IntWalk.i64_in _ (by omega)]; omega
 have HR0 : Aside0 (rows fr ds 0 (r.drop 0) (List.replicate M false) = RR) := ⟨by rw [List.drop_zero, hRR, hfr, hds, hM]⟩
 have HM : Aside0 (M = fr.length) := ⟨by rw [HFL.out]; exact hM⟩
 have t0 : ((r.length : Int) != (N : Int)) = false := bne_eq_false_iff_eq.2 (by omega)
 have mk := print_make_of (P := Try.prog) 36 4 (.bool false) 1 Try.underlying36 info_bool rfl (by decide) M (by omega)
 rw [made_bool] at mk
 have HLEN := Aside0.mk hlen
 clear hRR hfr hds hM HRES HFL hMe hlen
 go_enter Try.func34, Try.ntmps34
 go_wp2_with fail
 clear x0 x1 t0
 generalize w.alloc (.cells #[.int .i64 (N : Int), .slice A es.length c] 24 (0, 0)) = w1 at HX HB ⊢
 obtain ⟨bg, hbg⟩ : ∃ bg, bg = w.heap.size := ⟨_, rfl⟩
 rw [← hbg] at HX ⊢
 clear hbg
 refine (HOC.out w1 HB.out).mono ?_
 rintro e w2 ⟨V, rfl, hS, hb⟩
 obtain ⟨Ao, co, rfl, hco, hS⟩ := Kd.S_reads hS
 have HOS := Aside0.mk hS
 replace HX := Aside0.mk ((hb.block _ (lt_of HX.out)).trans HX.out)
 replace HB := Aside0.mk (HB.out.trans (hb.mono HB.out.size))
 clear hb hS HOC
 have x0 : w2.cell? ⟨bg, 0, none⟩ = some (.int .i64 (N : Int)) := heap_cell HX.out rfl
 have x1 : w2.cell? ⟨bg, 1, none⟩ = some (.slice A es.length c) := heap_cell HX.out rfl
 go_upto_region 5 with (fail)
 clear x0 x1 mk q
 obtain ⟨bs, hbs⟩ : ∃ bs, bs = w2.heap.size := ⟨_, rfl⟩
 have HT : Aside0 (BRow (w2.alloc (.cells (Array.replicate M (Value.bool false)) 4 (0, 0))) bs (List.replicate M false)) := ⟨by rw [hbs]; exact BRow.start w2 M⟩
 have HOS0 := HOS
 have HBO := Aside0.mk ((Below.refl w2.heap.size w2).alloc (Nat.le_refl _) (.cells (Array.replicate M (Value.bool false)) 4 (0, 0)))
 have HLO : Aside0 (w.heap.size ≤ bs ∧ w2.heap.size ≤ bs ∧ bg ≠ bs) := ⟨by have := HB.out.size; have := lt_of HX.out; omega⟩
 replace HX := Aside0.mk (heap_old HX.out (.cells (Array.replicate M (Value.bool false)) 4 (0, 0)))
 replace HB := Aside0.mk (HB.out.alloc HB.out.size (.cells (Array.replicate M (Value.bool false)) 4 (0, 0)))
 rw [← hbs]
 have HSF : Aside0 (Below w2.heap.size w2 (w2.alloc (.cells (Array.replicate M (Value.bool false)) 4 (0, 0)))) := HBO
 have HOS2 : Aside0 (∀ wx, Below w2.heap.size w2 wx → Kd.C KR wx Ao outs.length outs) := ⟨fun wx hx => Kd.C_below HOS0.out hx⟩
 clear hbs HOS HOS0 HBO
 generalize w2.alloc (.cells (Array.replicate M (Value.bool false)) 4 (0, 0)) = w3 at HT HX HB HSF ⊢
 go_wp2_with fail
 go_loopw [7] (fun y wr => ∃ (v : Nat) (S : List Bool), y = .int .i64 (v : Int) ∧ v ≤ N ∧ Aside0 (S.length = M) ∧ Aside0 (rows fr ds v (r.drop v) S = RR) ∧ Aside0 (BRow wr bs S) ∧ Aside0 (wr.heap[bg]? = some (.cells #[.int .i64 (N : Int), .slice A es.length c] 24 (0, 0))) ∧ Aside0 (Below w.heap.size w wr) ∧ Aside0 (Below w2.heap.size w2 wr)) (fun y _ => N - (intOf y).toNat)
 case atStart => exact ⟨0, _, rfl, by omega, ⟨by simp⟩, HR0, HT, HX, HB, HSF⟩
 case round =>
  clear HT HX HB HSF HR0
  obtain ⟨v, S, rfl, hv, HSL, HRR, HT, HX, HB, HSF⟩ := hrel
  have x0 : wr.cell? ⟨bg, 0, none⟩ = some (.int .i64 (N : Int)) := heap_cell HX.out rfl
  have x1 : wr.cell? ⟨bg, 1, none⟩ = some (.slice A es.length c) := heap_cell HX.out rfl
  clear x1
  by_cases hvn : v < N
  ·obtain ⟨ad, D, cD, eA, hx0, hcD, hrow⟩ := row_at HR.out (i := v) (by have := HLEN.out; omega)
   subst eA
   have hrl2 := HSM.out v (by have := HLEN.out; omega)
   have hr2 : rows fr ds v (gl r v :: r.drop (v + 1)) S = RR := by rw [← drop_row (by have := HLEN.out; omega)]; exact HRR.out
   rw [rows_cons] at hr2
   obtain ⟨row, hrw⟩ : ∃ row, row = gl r v := ⟨_, rfl⟩
   obtain ⟨rest, hrest⟩ : ∃ rest, rest = r.drop (v + 1) := ⟨_, rfl⟩
   rw [← hrw] at hx0 hcD hrow hrl2 hr2
   rw [← hrest] at hr2
   have HROW := Aside0.mk hrow
   have HXC := Aside0.mk hx0
   have HRW := Aside0.mk hrw
   have HREST := Aside0.mk hrest
   have HI0 : Aside0 (after fr ds v row rest (elems fr v (row.drop 0) S) = RR) := ⟨hr2⟩
   have hx := (HB.out.cell (cell_lt hx0)).trans hx0
   have t1 : decide ((v : Int) < (N : Int)) = true := decide_eq_true (by omega)
   have hvr : (v : Int) < (r.length : Int) := by have := HLEN.out; omega
   have HVR := Aside0.mk hvr
   clear hrow hx0 hrw hrest hr2 HRR
   go_wp2_with fail
   clear x0 hx t1
   go_loopw [8] (fun y wr => ∃ (i : Nat) (T : List Bool), y = .int .i64 (i : Int) ∧ i ≤ row.length ∧ Aside0 (T.length = M) ∧ Aside0 (after fr ds v row rest (elems fr v (row.drop i) T) = RR) ∧ Aside0 (BRow wr bs T) ∧ Aside0 (wr.heap[bg]? = some (.cells #[.int .i64 (N : Int), .slice A es.length c] 24 (0, 0))) ∧ Aside0 (Below w.heap.size w wr) ∧ Aside0 (Below w2.heap.size w2 wr)) (fun y _ => row.length - (intOf y).toNat)
   case atStart => exact ⟨0, S, rfl, by omega, HSL, HI0, HT, HX, HB, HSF⟩
   case round =>
    clear HT HX HB HSF HI0 HSL
    obtain ⟨i, T, rfl, hi, HTL, HI, HT, HX, HB, HSF⟩ := hrel
    have hx := (HB.out.cell (cell_lt HXC.out)).trans HXC.out
    have x0 : wr.cell? ⟨bg, 0, none⟩ = some (.int .i64 (N : Int)) := heap_cell HX.out rfl
    have x1 : wr.cell? ⟨bg, 1, none⟩ = some (.slice A es.length c) := heap_cell HX.out rfl
    have hvr := HVR.out
    by_cases hil : i < row.length
    ·obtain ⟨u, hu⟩ : ∃ u, u = gi row i := ⟨_, rfl⟩
     obtain ⟨ad2, eD, hxu⟩ := Kd.at_int (Kd.C_below HROW.out HB.out) (i : Int) (by omega) (by omega)
     rw [gi_rd, Int.toNat_natCast, ← hu] at hxu
     have hI := HI.out
     rw [drop_int hil, ← hu] at hI
     have hq : IntKind.i64.wrap (2 * (es.length : Int)) = (M : Int) := by have := HM.out; have := froms_length es; rw [← HFR.out] at this; rw [IntWalk.i64_in _ (by omega)]; omega
     subst eD
     by_cases hu0 : u < 0
     ·have HE2 : Aside0 (RR.2 = 111) := ⟨by
       rw [← hI, elems_cons_no (by unfold leaves; rw [decide_eq_false (show ¬ u ≥ 0 by omega)]; rfl)]; rfl⟩
      have t1 : decide (u < 0) = true := decide_eq_true hu0
      clear hI
      go_wp2_with fail
      go_ret
      exact ⟨by rw [HG.out, HE2.out]; rfl, HB.out⟩
     have t1 : decide (u < 0) = false := decide_eq_false hu0
     by_cases huM : (M : Int) ≤ u
     ·have HE2 : Aside0 (RR.2 = 111) := ⟨by
       rw [← hI, elems_cons_no (by unfold leaves; rw [decide_eq_false (show ¬ u < (fr.length : Int) by rw [← HM.out]; omega)]; simp)]; rfl⟩
      have t2 : decide (u ≥ (M : Int)) = true := decide_eq_true huM
      have t3 : decide ((M : Int) ≤ u) = true := decide_eq_true huM
      clear hI
      go_wp2_with fail
      go_ret
      exact ⟨by rw [HG.out, HE2.out]; rfl, HB.out⟩
     have t2 : decide (u ≥ (M : Int)) = false := decide_eq_false huM
     have t3 : decide ((M : Int) ≤ u) = false := decide_eq_false huM
     obtain ⟨h, rfl⟩ := Int.eq_ofNat_of_zero_le (show 0 ≤ u by omega)
     have hhM : h < M := by omega
     have hle : leaves fr (v : Int) (h : Int) = (gi fr h == (v : Int)) := by
      unfold leaves
      rw [decide_eq_true (show (h : Int) ≥ 0 by omega), decide_eq_true (show (h : Int) < (fr.length : Int) by rw [← HM.out]; omega), Int.toNat_natCast]; rfl
     have HLE := Aside0.mk hle
     have HI1 := Aside0.mk hI
     have HU := Aside0.mk hu
     have HHM : Aside0 (h < 2 * es.length) := ⟨by have := HM.out; have := froms_length es; rw [← HFR.out] at this; omega⟩
     clear hle hI hu hu0 huM HI
     go_wp2_with fail
     refine (from04_calls (N : Int) A c es h _ (HE.out.below HB.out) hm HHM.out).mono ?_
     rintro e' w4 ⟨rfl, hb⟩
     rw [← HFR.out]
     replace HX := Aside0.mk ((hb.block _ (lt_of HX.out)).trans HX.out)
     replace HT : Aside0 (BRow w4 bs T) := ⟨(hb.block _ (lt_of HT.out)).trans HT.out⟩
     replace HB := Aside0.mk (HB.out.trans (hb.mono HB.out.size))
     replace HSF := Aside0.mk (HSF.out.trans (hb.mono HSF.out.size))
     clear hb x0 x1 hx hxu t1 t2 t3 hq
     by_cases hfv : gi fr h = (v : Int)
     rotate_left
     ·have HE2 : Aside0 (RR.2 = 111) := ⟨by
       rw [← HI1.out, elems_cons_no (by rw [HLE.out]; exact beq_eq_false_iff_ne.2 hfv)]; rfl⟩
      have t1 : (gi fr h != (v : Int)) = true := bne_iff_ne.2 hfv
      obtain ⟨gf, hgf⟩ : ∃ gf, gf = gi fr h := ⟨_, rfl⟩
      rw [← hgf] at t1 ⊢
      clear hfv hgf
      go_wp2_with fail
      go_ret
      exact ⟨by rw [HG.out, HE2.out]; rfl, HB.out⟩
     have HLT : Aside0 (leaves fr (v : Int) (h : Int) = true) := ⟨by rw [HLE.out, hfv]; exact beq_self_eq_true _⟩
     have t1 : ((v : Int) != (v : Int)) = false := bne_eq_false_iff_eq.2 rfl
     rw [hfv]
     clear hfv
     have d1 := HT.out.cell (i := h) (by rw [HTL.out]; exact hhM)
     obtain ⟨bb, hbb⟩ : ∃ bb, bb = gb T h := ⟨_, rfl⟩
     rw [← hbb] at d1
     have HBH := Aside0.mk hbb
     have hhM2 : (h : Int) < (M : Int) := by omega
     clear hbb
     cases bb with
     | true =>
      have HE2 : Aside0 (RR.2 = 112) := ⟨by
       rw [← HI1.out, elems_cons_twice HLT.out (by rw [Int.toNat_natCast]; exact HBH.out.symm)]; rfl⟩
      go_wp2_with fail
      go_ret
      exact ⟨by rw [HG.out, HE2.out]; rfl, HB.out⟩
     | false =>
      have f1 := HT.out.free h
      have HI2 : Aside0 (after fr ds v row rest (elems fr v (row.drop (i + 1)) (T.set h true)) = RR) := ⟨by
       rw [← HI1.out, elems_cons HLT.out (by rw [Int.toNat_natCast]; exact HBH.out.symm), Int.toNat_natCast]⟩
      have HT2 := Aside0.mk (HT.out.put h true)
      have HB2 := Aside0.mk (HB.out.setCell (p := ⟨bs, h, none⟩) HLO.out.1 (.bool true))
      have HSF2 := Aside0.mk (HSF.out.setCell (p := ⟨bs, h, none⟩) HLO.out.2.1 (.bool true))
      have HX2 := Aside0.mk (heap_ne (v := .bool true) (i := h) HX.out HLO.out.2.2)
      clear HT HB HSF HX HI1
      go_wp2_with fail
      clear d1 f1 t1
      go_roundw
      case rel => exact ⟨i + 1, T.set h true, by go_num, by omega, ⟨by rw [List.length_set]; exact HTL.out⟩, HI2, HT2, HX2, HB2, HSF2⟩
      case measure => simp [intOf]; omega
    ·obtain rfl : i = row.length := by omega
     clear x0 x1
     obtain ⟨ad3, D3, cD3, eA3, hx3, hcD3, hrow3⟩ := row_at (HOS2.out wr HSF.out) (i := v) (by have := HOL.out; omega)
     subst eA3
     have hvo : (v : Int) < (outs.length : Int) := by have := HOL.out; omega
     obtain ⟨dv, hdv⟩ : ∃ dv, dv = (gl outs v).length := ⟨_, rfl⟩
     rw [← hdv] at hx3
     have hI := HI.out
     rw [List.drop_length] at hI
     change after fr ds v row rest (.ok T) = RR at hI
     rw [after_ok, HDS.out v hvn, ← hdv] at hI
     clear hdv hcD3 hrow3 HI
     by_cases hfew : row.length = dv
     ·have HI2 : Aside0 (rows fr ds (v + 1) (r.drop (v + 1)) T = RR) := ⟨by rw [← HREST.out]; rw [if_pos (show (row.length : Int) = (dv : Int) by omega)] at hI; exact hI⟩
      have t1 : ((row.length : Int) != (dv : Int)) = false := bne_eq_false_iff_eq.2 (by omega)
      clear hI hfew
      go_wp2_with fail
      go_quiet (fail)
      replace HX : Aside0 ((wr.drewN nq).heap[bg]? = some (.cells #[.int .i64 (N : Int), .slice A es.length c] 24 (0, 0))) := ⟨HX.out⟩
      replace HT : Aside0 (BRow (wr.drewN nq) bs T) := ⟨HT.out⟩
      replace HB := Aside0.mk (pw_below_drewN HB.out nq)
      replace HSF := Aside0.mk (pw_below_drewN HSF.out nq)
      generalize wr.drewN nq = w5 at HX HT HB HSF ⊢
      clear hx hx3 t1
      go_wp2_with fail
      go_roundw
      case rel => exact ⟨v + 1, T, by go_num, by omega, HTL, HI2, HT, HX, HB, HSF⟩
      case measure => simp [intOf]; omega
     ·have HE2 : Aside0 (RR.2 = 113) := ⟨by rw [if_neg (show ¬ (row.length : Int) = (dv : Int) by omega)] at hI; rw [← hI]⟩
      have t1 : ((row.length : Int) != (dv : Int)) = true := bne_iff_ne.2 (by omega)
      clear hI hfew
      go_wp2_with fail
      go_quiet (fail)
      replace HB := Aside0.mk (pw_below_drewN HB.out nq)
      generalize wr.drewN nq = w5 at HB ⊢
      clear hx hx3 t1
      go_wp2_with fail
      go_ret
      exact ⟨by rw [HG.out, HE2.out]; rfl, HB.out⟩
  ·obtain rfl : v = N := by omega
   have HE2 : Aside0 (RR.2 = 0) := ⟨by
    have h := HRR.out
    rw [List.drop_of_length_le (by rw [HLEN.out]; exact Nat.le_refl _)] at h
    rw [← h]; rfl⟩
   have t1 : decide ((v : Int) < (v : Int)) = false := decide_eq_false (by omega)
   go_wp2_with fail
   go_ret
   exact ⟨by rw [HG.out, HE2.out]; rfl, HB.out⟩
end Graph
namespace Feet
open Mem Peel
def placeTo (N : Nat) (l : List Int) : Nat → List Int
 | 0 => List.replicate N 0
 | i + 1 => (placeTo N l i).set (gi l i).toNat (i : Int)
theorem placeTo_length (N : Nat) (l : List Int) : ∀ i, (placeTo N l i).length = N
 | 0 => by simp [placeTo]
 | i + 1 => by show ((placeTo N l i).set _ _).length = N; rw [List.length_set, placeTo_length N l i]
def footT (pl row : List Int) (N k : Nat) : Nat → List Bool × Nat
 | 0 => (List.replicate N false, 0)
 | i + 1 => if gi pl (gi row i).toNat < (k : Int) then ((footT pl row N k i).1.set (gi row i).toNat true, (footT pl row N k i).2 + 1) else footT pl row N k i
theorem footT_len (pl row : List Int) (N k : Nat) : ∀ i, (footT pl row N k i).1.length = N ∧ (footT pl row N k i).2 ≤ i
 | 0 => ⟨by simp [footT], Nat.le_refl _⟩
 | i + 1 => by
  have h := footT_len pl row N k i
  unfold footT
  split
  ·exact ⟨by rw [List.length_set]; exact h.1, by have := h.2; show _ + 1 ≤ _; omega⟩
  ·exact ⟨h.1, by omega⟩
def firstT (F : List Bool) : List Int → Nat
 | [] => 0
 | x :: t => if gb F x.toNat = true then 0 else firstT F t + 1
theorem firstT_at (F : List Bool) : ∀ (sh : List Int) (i : Nat), i ≤ sh.length → (∀ j, j < i → gb F (gi sh j).toNat = false) → (i = sh.length ∨ gb F (gi sh i).toNat = true) → firstT F sh = i
 | [], i, h, _, _ => by simp at h; subst h; rfl
 | x :: t, 0, _, _, h => by
  unfold firstT
  rw [if_pos]
  rcases h with h | h
  ·simp at h
  ·exact h
 | x :: t, i + 1, h, h1, h2 => by
  have h3 : gb F x.toNat = false := h1 0 (by omega)
  unfold firstT
  rw [if_neg (by rw [h3]; decide), firstT_at F t i (by simpa using h) (fun j hj => h1 (j + 1) (by omega)) (by
   rcases h2 with h2 | h2
   ·left; simpa using h2
   ·right; exact h2)]
def stepF (pl : List Int) (ad : Nat → List Int) (N k v : Nat) (sh : List Int) : Option (List Int × List Int) :=
 let t := footT pl (ad v) N k (ad v).length
 let f := firstT t.1 sh
 if t.2 < 2 ∨ sh.length < f + t.2 then none
 else if ((sh.take (f + t.2)).drop f).any (fun x => !gb t.1 x.toNat) = true then none
 else if ((sh.take (f + t.2 - 1)).drop (f + 1)).any (fun w => (ad w.toNat).any fun x => decide ((k : Int) < gi pl x.toNat)) = true then none
 else some ((sh.take (f + t.2)).drop f, sh.take (f + 1) ++ [(v : Int)] ++ sh.drop (f + t.2 - 1))
theorem stepF_eq {pl : List Int} {ad : Nat → List Int} {N k v : Nat} {sh : List Int} {F : List Bool} {n f : Nat} (h : footT pl (ad v) N k (ad v).length = (F, n)) (hf : firstT F sh = f) :
  stepF pl ad N k v sh = if n < 2 ∨ sh.length < f + n then none
 else if ((sh.take (f + n)).drop f).any (fun x => !gb F x.toNat) = true then none
 else if ((sh.take (f + n - 1)).drop (f + 1)).any (fun w => (ad w.toNat).any fun x => decide ((k : Int) < gi pl x.toNat)) = true then none
 else some ((sh.take (f + n)).drop f, sh.take (f + 1) ++ [(v : Int)] ++ sh.drop (f + n - 1)) := by
 unfold stepF
 rw [h]
 simp only
 rw [hf]
def feetT (pl : List Int) (ad : Nat → List Int) (N : Nat) (a b : Int) (l : List Int) : Nat → Option (List (List Int) × List Int)
 | 0 => some (List.replicate N [], [a, b])
 | k + 1 => (feetT pl ad N a b l k).bind fun t => (stepF pl ad N (k + 2) (gi l (k + 2)).toNat t.2).bind fun u => some (t.1.set (k + 2) u.1, u.2)
theorem feetT_none {pl : List Int} {ad : Nat → List Int} {N : Nat} {a b : Int} {l : List Int} {k : Nat} (h : feetT pl ad N a b l k = none) : ∀ d, feetT pl ad N a b l (k + d) = none
 | 0 => h
 | d + 1 => by
  show (feetT pl ad N a b l (k + d)).bind _ = none
  rw [feetT_none h d]
  rfl
theorem stepF_next {pl : List Int} {ad : Nat → List Int} {N k v : Nat} {sh feet sh' : List Int} {P : Int → Prop} (h : stepF pl ad N k v sh = some (feet, sh')) (hv : P (v : Int)) (hs : ∀ x ∈ sh, P x) : (∀ x ∈ sh', P x) ∧ sh'.length ≤ sh.length + 1 := by
 unfold stepF at h
 simp only at h
 split at h
 ·cases h
 ·rename_i h1
  split at h
  ·cases h
  ·split at h
   ·cases h
   ·obtain ⟨rfl, rfl⟩ := Prod.mk.inj (Option.some.inj h)
    refine ⟨fun x hx => ?_, ?_⟩
    ·rcases List.mem_append.1 hx with hx | hx
     ·rcases List.mem_append.1 hx with hx | hx
      ·exact hs x (List.mem_of_mem_take hx)
      ·rw [List.mem_singleton] at hx
       rw [hx]; exact hv
     ·exact hs x (List.mem_of_mem_drop hx)
    ·rw [List.length_append, List.length_append, List.length_take, List.length_drop]
     simp only [List.length_cons, List.length_nil]
     omega
theorem feetT_in {pl : List Int} {ad : Nat → List Int} {N : Nat} {a b : Int} {l : List Int} (ha : 0 ≤ a ∧ a < (N : Int)) (hb : 0 ≤ b ∧ b < (N : Int)) : ∀ {k : Nat} {out : List (List Int)} {sh : List Int}, (∀ j, j < k + 2 → 0 ≤ gi l j ∧ gi l j < (N : Int)) → feetT pl ad N a b l k = some (out, sh) → out.length = N ∧ sh.length ≤ k + 2 ∧ ∀ x ∈ sh, 0 ≤ x ∧ x < (N : Int)
 | 0, out, sh, _, h => by
  obtain ⟨rfl, rfl⟩ := Prod.mk.inj (Option.some.inj h)
  refine ⟨by simp, by simp, fun x hx => ?_⟩
  rcases List.mem_cons.1 hx with rfl | hx
  ·exact ha
  ·rw [List.mem_singleton] at hx
   rw [hx]; exact hb
 | k + 1, out, sh, hl, h => by
  obtain ⟨⟨o, s⟩, h1, h2⟩ := Option.bind_eq_some_iff.1 (show (feetT pl ad N a b l k).bind _ = _ from h)
  obtain ⟨⟨f, s'⟩, h3, h4⟩ := Option.bind_eq_some_iff.1 h2
  obtain ⟨rfl, rfl⟩ := Prod.mk.inj (Option.some.inj h4)
  obtain ⟨g1, g2, g3⟩ := feetT_in ha hb (fun j hj => hl j (by omega)) h1
  have hv := hl (k + 2) (by omega)
  obtain ⟨g4, g5⟩ := stepF_next (P := fun x => 0 ≤ x ∧ x < (N : Int)) h3 (by rw [Int.toNat_of_nonneg hv.1]; exact hv) g3
  exact ⟨by rw [List.length_set]; exact g1, by have h5 : s'.length ≤ s.length + 1 := g5; show s'.length ≤ _; omega, g4⟩
def feetF (N : Nat) (ad : Nat → List Int) (a b c : Int) (l : List Int) (ok : Bool) : Option (List (List Int)) :=
 if ok = false ∨ gi l 0 ≠ a ∨ gi l 1 ≠ b ∨ gi l (N - 1) ≠ c then none else (feetT (placeTo N l N) ad N a b l (N - 2)).map (·.1)
def FeetPost (w : World) (res : Option (List (List Int))) (e : Ending) (w' : World) : Prop :=
 match res with
 | none => e = .returned (.tuple #[.slice none 0 0, .bool false]) ∧ Below w.heap.size w w'
 | some out => ∃ u, e = .returned (.tuple #[u, .bool true]) ∧ Kd.S KR 27 w' w.heap.size (fun _ => True) u out ∧ Below w.heap.size w w'
def adL (outs : List (List Int)) (tos : List Int) (v : Nat) : List Int := (gl outs v).map fun h => gi tos h.toNat
theorem adL_length (outs : List (List Int)) (tos : List Int) (v : Nat) : (adL outs tos v).length = (gl outs v).length := List.length_map ..
theorem gi_adL {outs : List (List Int)} {tos : List Int} {v j : Nat} (h : j < (gl outs v).length) : gi (adL outs tos v) j = gi tos (gi (gl outs v) j).toNat := by
 unfold adL
 unfold gi
 rw [List.getD_eq_getElem?_getD, List.getD_eq_getElem?_getD, List.getElem?_map, List.getElem?_eq_getElem h]
 simp [List.getD_eq_getElem?_getD, List.getElem?_eq_getElem h]
theorem feet_calls {w : World} {N m : Nat} {A : Option Addr} {c0 : Nat} {A1 : Option Addr} {lr c1 : Nat} {root : Int} {a b c : Int} {ok : Bool} {outs : List (List Int)} {tos : List Int}
  (Al : Option Addr) (cl : Nat) (l : List Int) (hl : Kd.C (Kd.int .i64) w Al l.length l) (hlc : l.length ≤ cl)
  (h3 : 3 ≤ N) (hN : N ≤ 1048576) (ha : 0 ≤ a ∧ a < (N : Int)) (hb : 0 ≤ b ∧ b < (N : Int)) (hok : ok = true → l.length = N ∧ ∀ j, j < N → 0 ≤ gi l j ∧ gi l j < (N : Int))
  (hol : outs.length = N) (hoh : ∀ v, v < N → (gl outs v).length ≤ 9000000 ∧ ∀ j, j < (gl outs v).length → 0 ≤ gi (gl outs v) j ∧ gi (gl outs v) j < ((2 * m : Nat) : Int)) (hto : ∀ h, h < 2 * m → 0 ≤ gi tos h ∧ gi tos h < (N : Int))
  (c39 : ∀ W, Below w.heap.size w W → Calls Try.prog 39 #[.agg #[.int .i64 (N : Int), .slice A m c0], .slice A1 lr c1, .int .i64 root] W fun e w' => e = .returned (.tuple #[.int .i64 a, .int .i64 b, .int .i64 c]) ∧ Below W.heap.size W w')
  (c40 : ∀ W, Below w.heap.size w W → Calls Try.prog 40 #[.int .i64 (N : Int), .slice Al l.length cl] W fun e w' => e = .returned (.bool ok) ∧ Below W.heap.size W w')
  (c41 : ∀ W, Below w.heap.size w W → Calls Try.prog 41 #[.agg #[.int .i64 (N : Int), .slice A m c0]] W fun e w' => ∃ V, e = .returned V ∧ Kd.S KR 27 w' W.heap.size (fun _ => True) V outs ∧ Below W.heap.size W w')
  (c42 : ∀ W, Below w.heap.size w W → ∀ h : Nat, h < 2 * m → Calls Try.prog 42 #[.agg #[.int .i64 (N : Int), .slice A m c0], .int .i64 (h : Int)] W fun e w' => e = .returned (.int .i64 (gi tos h)) ∧ Below W.heap.size W w')
  (res : Option (List (List Int))) (hres : feetF N (adL outs tos) a b c l ok = res) :
  Calls Try.prog 25 #[.agg #[.int .i64 (N : Int), .slice A m c0], .slice A1 lr c1, .int .i64 root, .slice Al l.length cl] w (FeetPost w res) := by
 have HL := Aside0.mk hl
 have HLC := Aside0.mk hlc
 have HOK := Aside0.mk hok
 have HOL := Aside0.mk hol
 have HOH := Aside0.mk hoh
 have HTO := Aside0.mk hto
 have C39 := Aside0.mk c39
 have C40 := Aside0.mk c40
 have C41 := Aside0.mk c41
 have C42 := Aside0.mk c42
 have HRES := Aside0.mk hres
 have HBW := Aside0.mk ((Below.refl w.heap.size w).alloc (Nat.le_refl _) (.cells #[.int .i64 (N : Int), .slice A m c0] 24 (0, 0)))
 have HX := Aside0.mk (heap_last w (.cells #[.int .i64 (N : Int), .slice A m c0] 24 (0, 0)))
 have x0 : (w.alloc (.cells #[.int .i64 (N : Int), .slice A m c0] 24 (0, 0))).cell? ⟨w.heap.size, 0, none⟩ = some (.int .i64 (N : Int)) := heap_cell HX.out rfl
 have x1 : (w.alloc (.cells #[.int .i64 (N : Int), .slice A m c0] 24 (0, 0))).cell? ⟨w.heap.size, 1, none⟩ = some (.slice A m c0) := heap_cell HX.out rfl
 clear hl hlc hok hol hoh hto c39 c40 c41 c42 hres
 go_enter Try.func25, Try.ntmps25
 go_wp2_with fail
 clear x0 x1
 generalize w.alloc (.cells #[.int .i64 (N : Int), .slice A m c0] 24 (0, 0)) = w1 at HX HBW ⊢
 obtain ⟨bg, hbg⟩ : ∃ bg, bg = w.heap.size := ⟨_, rfl⟩
 rw [← hbg] at HX ⊢
 have HBG := Aside0.mk hbg
 clear hbg
 refine (C39.out w1 HBW.out).mono ?_
 rintro e w2 ⟨rfl, hb2⟩
 replace HX := Aside0.mk ((hb2.block _ (lt_of HX.out)).trans HX.out)
 replace HBW := Aside0.mk (HBW.out.trans (hb2.mono HBW.out.size))
 have x0 : w2.cell? ⟨bg, 0, none⟩ = some (.int .i64 (N : Int)) := heap_cell HX.out rfl
 clear hb2 C39
 go_wp2_with fail
 clear x0
 refine (C40.out w2 HBW.out).mono ?_
 rintro e w3 ⟨rfl, hb2⟩
 replace HX := Aside0.mk ((hb2.block _ (lt_of HX.out)).trans HX.out)
 replace HBW := Aside0.mk (HBW.out.trans (hb2.mono HBW.out.size))
 clear hb2 C40
 cases hok2 : ok with
 | false =>
  subst hok2
  have h := HRES.out
  unfold feetF at h
  rw [if_pos (.inl rfl)] at h
  subst h
  go_wp2_with fail
  go_ret2
  exact ⟨by simp, HBW.out⟩
 | true =>
 subst hok2
 obtain ⟨hlN, hlin⟩ := HOK.out rfl
 have HLIN := Aside0.mk hlin
 have hl2 := HL.out
 have hlc2 := HLC.out
 rw [hlN] at hl2 hlc2
 replace HL := Aside0.mk hl2
 replace HLC := Aside0.mk hlc2
 rw [hlN]
 clear hl2 hlc2 HOK hlN hlin
 have hres := HRES.out
 unfold feetF at hres
 obtain ⟨adl, eL, z0⟩ := Kd.at_int (Kd.C_below HL.out HBW.out) ((0 : Nat) : Int) (by omega) (by omega)
 subst eL
 obtain ⟨_, eL, z1⟩ := Kd.at_int (Kd.C_below HL.out HBW.out) ((1 : Nat) : Int) (by omega) (by omega)
 injection eL with eL
 subst eL
 obtain ⟨i1, hi1⟩ : ∃ j, j = N - 1 := ⟨_, rfl⟩
 obtain ⟨_, eL, z2⟩ := Kd.at_int (Kd.C_below HL.out HBW.out) (i1 : Int) (by omega) (by omega)
 injection eL with eL
 subst eL
 rw [gi_rd, Int.toNat_natCast] at z0 z1 z2
 rw [← hi1] at hres
 have m1 : IntKind.i64.wrap ((N : Int) - 1) = (i1 : Int) := by rw [IntWalk.i64_in _ (by omega)]; omega
 have gi1 : (i1 : Int) < (N : Int) := by omega
 have gi1' : i1 < N := by omega
 have g0 : (0 : Int) < (N : Int) := by omega
 have g0' : 0 < N := by omega
 have g1 : (1 : Int) < (N : Int) := by omega
 have g1' : 1 < N := by omega
 obtain ⟨y0, hy0⟩ : ∃ y, y = gi l 0 := ⟨_, rfl⟩
 obtain ⟨y1, hy1⟩ : ∃ y, y = gi l 1 := ⟨_, rfl⟩
 obtain ⟨y2, hy2⟩ : ∃ y, y = gi l i1 := ⟨_, rfl⟩
 rw [← hy0] at z0
 rw [← hy1] at z1
 rw [← hy2] at z2
 rw [← hy0, ← hy1, ← hy2] at hres
 have z0' : w3.cell? adl = some (.int .i64 y0) := z0
 have z1' : w3.cell? ⟨adl.block, adl.off + 1, none⟩ = some (.int .i64 y1) := z1
 replace HRES := Aside0.mk hres
 clear hy0 hy1 hy2 hi1 hres
 by_cases k1 : y0 = a
 rotate_left
 ·have t1 : (y0 != a) = true := bne_iff_ne.2 k1
  have hres := HRES.out
  rw [if_pos (.inr (.inl k1))] at hres
  subst hres
  clear k1
  go_wp2_with fail
  go_ret2
  exact ⟨by simp, HBW.out⟩
 have t1 : (y0 != a) = false := bne_eq_false_iff_eq.2 k1
 by_cases k2 : y1 = b
 rotate_left
 ·have t2 : (y1 != b) = true := bne_iff_ne.2 k2
  have hres := HRES.out
  rw [if_pos (.inr (.inr (.inl k2)))] at hres
  subst hres
  clear k1 k2
  go_wp2_with fail
  go_ret2
  exact ⟨by simp, HBW.out⟩
 have t2 : (y1 != b) = false := bne_eq_false_iff_eq.2 k2
 by_cases k3 : y2 = c
 rotate_left
 ·have t3 : (y2 != c) = true := bne_iff_ne.2 k3
  have hres := HRES.out
  rw [if_pos (.inr (.inr (.inr k3)))] at hres
  subst hres
  clear k1 k2 k3
  go_wp2_with fail
  go_ret2
  exact ⟨by simp, HBW.out⟩
 have t3 : (y2 != c) = false := bne_eq_false_iff_eq.2 k3
 have hres := HRES.out
 rw [if_neg (by rintro (q | q | q | q); exact absurd q (by decide); exact q k1; exact q k2; exact q k3)] at hres
 replace HRES := Aside0.mk hres
 clear k1 k2 k3 hres
 go_upto_region 5 with (fail)
 clear z0 z1 z2 z0' z1' m1 gi1 gi1' g0 g0' g1 g1' t1 t2 t3
 have mk1 := print_make_of (P := Try.prog) 27 3 (.int .i64 0) 8 Try.underlying27 info_int rfl (by decide) N (by omega)
 have x0 : w3.cell? ⟨bg, 0, none⟩ = some (.int .i64 (N : Int)) := heap_cell HX.out rfl
 go_upto_region 6 with (fail)
 clear x0 mk1
 obtain ⟨bt, hbt⟩ : ∃ bt, bt = w3.heap.size := ⟨_, rfl⟩
 have HX4 := Aside0.mk (heap_old HX.out (.cells (madeCells #[.int .i64 0] N) 3 (0, 0)))
 have HB4 := Aside0.mk (HBW.out.alloc HBW.out.size (.cells (madeCells #[.int .i64 0] N) 3 (0, 0)))
 have HT4 : Aside0 (IRow (w3.alloc (.cells (madeCells #[.int .i64 0] N) 3 (0, 0))) bt (placeTo N l 0)) := ⟨by rw [made_int, hbt]; exact IRow.start w3 N⟩
 have HLT : Aside0 (w.heap.size ≤ bt ∧ bg ≠ bt) := ⟨by have := HBW.out.size; have := lt_of HX.out; omega⟩
 rw [← hbt]
 clear hbt HX HBW
 generalize w3.alloc (.cells (madeCells #[.int .i64 0] N) 3 (0, 0)) = w4 at HX4 HB4 HT4 ⊢
 go_wp2_with fail
 go_loopw [15] (fun y ws => ∃ i : Nat, y = .int .i64 (i : Int) ∧ i ≤ N ∧ Aside0 (IRow ws bt (placeTo N l i)) ∧ Aside0 (ws.heap[bg]? = some (.cells #[.int .i64 (N : Int), .slice A m c0] 24 (0, 0))) ∧ Aside0 (Below w.heap.size w ws)) (fun y _ => N - (intOf y).toNat)
 case atStart => exact ⟨0, rfl, by omega, HT4, HX4, HB4⟩
 case round =>
  clear HT4 HX4 HB4
  obtain ⟨i, rfl, hi, HT, HX, HB⟩ := hrel
  have x0 : wr.cell? ⟨bg, 0, none⟩ = some (.int .i64 (N : Int)) := heap_cell HX.out rfl
  by_cases hlt : i < N
  ·have s1 : decide ((i : Int) < (N : Int)) = true := decide_eq_true (by omega)
   obtain ⟨_, eL, z1⟩ := Kd.at_int (Kd.C_below HL.out HB.out) (i : Int) (by omega) (by omega)
   injection eL with eL
   subst eL
   rw [gi_rd, Int.toNat_natCast] at z1
   obtain ⟨u, hu⟩ := Int.eq_ofNat_of_zero_le (HLIN.out i hlt).1
   have hun : u < N := by have := (HLIN.out i hlt).2; omega
   rw [hu] at z1
   have HU := Aside0.mk hu
   have gu : (u : Int) < (N : Int) := by omega
   have c1 := HT.out.cell (i := u) (by rw [placeTo_length]; exact hun)
   have f1 := HT.out.free u
   have HT2 : Aside0 (IRow (wr.setCell ⟨bt, u, none⟩ (.int .i64 (i : Int))) bt (placeTo N l (i + 1))) := ⟨by
    have h := HT.out.put u (i : Int)
    show IRow _ bt ((placeTo N l i).set (gi l i).toNat (i : Int))
    rw [HU.out, Int.toNat_natCast]
    exact h⟩
   have HX2 := Aside0.mk (heap_ne (v := .int .i64 (i : Int)) (i := u) HX.out HLT.out.2)
   have HB2 := Aside0.mk (HB.out.setCell (p := ⟨bt, u, none⟩) HLT.out.1 (.int .i64 (i : Int)))
   clear HT HX HB hu
   go_wp2_with fail
   clear x0 z1 c1 f1 s1
   go_roundw
   case rel => exact ⟨i + 1, by go_num, by omega, HT2, HX2, HB2⟩
   case measure => simp [intOf]; omega
  ·obtain rfl : i = N := by omega
   have s1 : decide ((i : Int) < (i : Int)) = false := decide_eq_false (by omega)
   have x1 : wr.cell? ⟨bg, 1, none⟩ = some (.slice A m c0) := heap_cell HX.out rfl
   obtain ⟨pl, hpl⟩ : ∃ pl, pl = placeTo i l i := ⟨_, rfl⟩
   have hpll : pl.length = i := by rw [hpl, placeTo_length]
   have HPL := Aside0.mk hpll
   rw [← hpl] at HT
   have hres := HRES.out
   rw [← hpl] at hres
   replace HRES := Aside0.mk hres
   clear hlt hi hpl hpll hres
   go_wp2_with fail
   clear x0 x1 s1
   refine (C41.out wr HB.out).mono ?_
   rintro e w5 ⟨V, rfl, hS, hb5⟩
   obtain ⟨Ao, co, rfl, hco, hS⟩ := Kd.S_reads hS
   have HOS0 := Aside0.mk hS
   have HX5 := Aside0.mk ((hb5.block _ (lt_of HX.out)).trans HX.out)
   have HT5 : Aside0 (IRow w5 bt pl) := ⟨(hb5.block _ (lt_of HT.out)).trans HT.out⟩
   have HB5 := Aside0.mk (HB.out.trans (hb5.mono HB.out.size))
   have HOS : Aside0 (∀ wx, Below w5.heap.size w5 wx → Kd.C KR wx Ao outs.length outs) := ⟨fun wx hx => Kd.C_below HOS0.out hx⟩
   clear hS hb5 hco HOS0 HX HT HB C41
   have mk2 := print_make_of (P := Try.prog) 25 27 (.slice none 0 0) 24 Try.underlying25 info_ints rfl (by decide) i (by omega)
   have x0 : w5.cell? ⟨bg, 0, none⟩ = some (.int .i64 (i : Int)) := heap_cell HX5.out rfl
   go_upto_region 12 with (fail)
   clear x0 mk2
   obtain ⟨bo, hbo⟩ : ∃ k, k = w5.heap.size := ⟨_, rfl⟩
   obtain ⟨wo, hwo⟩ : ∃ wo, wo = w5.alloc (.cells (madeCells #[.slice none 0 0] i) 27 (0, 0)) := ⟨_, rfl⟩
   have hb19 : Below w5.heap.size w5 wo := by rw [hwo]; exact (Below.refl _ _).alloc (Nat.le_refl _) _
   have HRW0 : Aside0 (Rows2 wo (bo + 1) bo (List.replicate i (.slice none 0 0)) (List.replicate i [])) := ⟨by rw [hwo, made_nil, hbo]; exact Rows2.start w5 i⟩
   have HBO := Aside0.mk hb19
   have HBQ := Aside0.mk hbo
   rw [← hbo, ← hwo]
   clear hbo hwo hb19
   have HB6 : Aside0 (Below w5.heap.size w5 (wo.alloc (.cells #[.int .i64 a, .int .i64 b] 3 (0, 0)))) := ⟨HBO.out.alloc HBO.out.size _⟩
   have HRW1 : Aside0 (Rows2 (wo.alloc (.cells #[.int .i64 a, .int .i64 b] 3 (0, 0))) (bo + 1) bo (List.replicate i (.slice none 0 0)) (List.replicate i [])) := ⟨HRW0.out.below ((Below.refl _ _).alloc (Nat.le_refl _) _)⟩
   have HR0 : Aside0 (Kd.R (Kd.int .i64) 3 (wo.alloc (.cells #[.int .i64 a, .int .i64 b] 3 (0, 0))) (bo + 1) (fun _ => True) (.slice (some ⟨wo.heap.size, 0, none⟩) 2 2) [a, b]) := ⟨by
    have h : IRow (wo.alloc (.cells #[.int .i64 a, .int .i64 b] 3 (0, 0))) wo.heap.size [a, b] := heap_last _ _
    exact h.own (ok := fun _ => True) (by have := lt_of HRW0.out.out; omega) (by simp) trivial⟩
   have HFT0 : Aside0 (feetT pl (adL outs tos) i a b l 0 = some (List.replicate i [], [a, b])) := ⟨rfl⟩
   have HBW5 : Aside0 (w.heap.size ≤ w5.heap.size) := ⟨HB5.out.size⟩
   go_wp2_with fail
   generalize wo.alloc (.cells #[.int .i64 a, .int .i64 b] 3 (0, 0)) = w6 at HB6 HRW1 HR0 ⊢
   clear HRW0 HBO
   go_loopw [18, 19] (fun y1 y2 ws => ∃ (k : Nat) (out : List (List Int)) (sh : List Int) (As : Option Addr) (cs : Nat) (vs : List Value), y1 = .slice As sh.length cs ∧ y2 = .int .i64 (k + 2 : Nat) ∧ k + 2 ≤ i ∧ Aside0 (feetT pl (adL outs tos) i a b l k = some (out, sh)) ∧ Aside0 (Kd.R (Kd.int .i64) 3 ws (bo + 1) (fun _ => True) (.slice As sh.length cs) sh) ∧ Aside0 (Rows2 ws (bo + 1) bo vs out) ∧ Aside0 (Below w5.heap.size w5 ws)) (fun _ y _ => i - (intOf y).toNat)
   case atStart => exact ⟨0, _, _, _, _, _, rfl, rfl, by omega, HFT0, HR0, HRW1, HB6⟩
   case round =>
    clear HFT0 HR0 HRW1 HB6
    obtain ⟨k, out, sh, As, cs, vs, rfl, rfl, hk, HFT, HR, HRW, HBK⟩ := hrel
    have x0 : wr.cell? ⟨bg, 0, none⟩ = some (.int .i64 (i : Int)) := heap_cell ((HBK.out.block _ (lt_of HX5.out)).trans HX5.out) rfl
    have HBW : Aside0 (Below w.heap.size w wr) := ⟨HB5.out.trans (HBK.out.mono HB5.out.size)⟩
    obtain ⟨K, hK⟩ : ∃ K, K = k + 2 := ⟨_, rfl⟩
    rw [← hK]
    have HK := Aside0.mk hK
    by_cases hlt : K < i
    rotate_left
    ·obtain rfl : K = i := by omega
     have s1 : decide ((K : Int) < (K : Int)) = false := decide_eq_false (by omega)
     have hres := HRES.out
     rw [show K - 2 = k by omega, HFT.out] at hres
     replace hres : some out = res := hres
     subst hres
     have hol2 := (feetT_in ha hb (fun j hj => HLIN.out j (by omega)) HFT.out).1
     have HS := Aside0.mk (Rows2.tells (base := w.heap.size) HRW.out (by have := HBW5.out; have := HBQ.out; omega) (by have := HBW5.out; have := HBQ.out; omega) (by rw [hol2]; omega))
     have hs := HS.out
     rw [hol2] at hs
     replace HS := Aside0.mk hs
     clear hol2 hs hlt hk hK
     go_wp2_with fail
     go_ret2
     exact ⟨.slice (some ⟨bo, 0, none⟩) K K, by simp, HS.out, HBW.out⟩
    have s1 : decide ((K : Int) < (i : Int)) = true := decide_eq_true (by omega)
    obtain ⟨hol2, hsl, hshr⟩ := feetT_in ha hb (fun j hj => HLIN.out j (by omega)) HFT.out
    obtain ⟨_, eL, z1⟩ := Kd.at_int (Kd.C_below HL.out HBW.out) (K : Int) (by omega) (by omega)
    injection eL with eL
    subst eL
    rw [gi_rd, Int.toNat_natCast] at z1
    obtain ⟨v, hv⟩ := Int.eq_ofNat_of_zero_le (HLIN.out K hlt).1
    have hvi : v < i := by have := (HLIN.out K hlt).2; omega
    rw [hv] at z1
    have hnxt : ∀ o, stepF pl (adL outs tos) i K v sh = o → feetT pl (adL outs tos) i a b l (k + 1) = o.bind fun u => some (out.set K u.1, u.2) := fun o ho => by
     show (feetT pl (adL outs tos) i a b l k).bind _ = _
     rw [HFT.out]
     show (stepF pl (adL outs tos) i (k + 2) (gi l (k + 2)).toNat sh).bind _ = _
     rw [← hK, hv, Int.toNat_natCast, ho]
    have hno : stepF pl (adL outs tos) i K v sh = none → res = none := fun ho => by
     have h := feetT_none (k := k + 1) (by rw [hnxt _ ho]; rfl) (i - 2 - (k + 1))
     rw [show k + 1 + (i - 2 - (k + 1)) = i - 2 by omega] at h
     have h2 := HRES.out
     rw [h] at h2
     exact h2.symm
    have HNX := Aside0.mk hnxt
    have HNO := Aside0.mk hno
    have HOL2 := Aside0.mk hol2
    have HSHR := Aside0.mk hshr
    have hslb : sh.length ≤ 9000000 := by omega
    have hvL : (v : Int) < (outs.length : Int) := by have := HOL.out; omega
    obtain ⟨ado, D, cD, eAo, hx0, hcD, hrow⟩ := row_at (HOS.out w5 (Below.refl _ _)) (i := v) (by have := HOL.out; omega)
    subst eAo
    obtain ⟨hrl, hri⟩ := HOH.out v hvi
    obtain ⟨hs, hhs⟩ : ∃ hs, hs = gl outs v := ⟨_, rfl⟩
    rw [← hhs] at hx0 hcD hrow hrl hri
    have HXC := Aside0.mk hx0
    have HROW := Aside0.mk hrow
    have HRI := Aside0.mk hri
    have HHS := Aside0.mk hhs
    obtain ⟨L, hL⟩ : ∃ L, L = hs.length := ⟨_, rfl⟩
    have HLL := Aside0.mk hL
    rw [← hL] at hx0 hrl hcD
    replace HXC := Aside0.mk hx0
    have HV := Aside0.mk hv
    have mk3 := print_make_of (P := Try.prog) 36 4 (.bool false) 1 Try.underlying36 info_bool rfl (by decide) i (by omega)
    rw [made_bool] at mk3
    clear hnxt hno hol2 hshr hx0 hrow hri hhs hL hv hK
    go_upto_region 19 with (fail)
    clear mk3 z1 x0 s1
    obtain ⟨wq, hwq⟩ : ∃ wq, wq = wr := ⟨_, rfl⟩
    rw [← hwq] at HR HRW HBK HBW ⊢
    clear hwq
    obtain ⟨bf, hbf⟩ : ∃ bf, bf = wq.heap.size := ⟨_, rfl⟩
    have HFB0 : Aside0 (BRow (wq.alloc (.cells (Array.replicate i (Value.bool false)) 4 (0, 0))) bf (List.replicate i false)) := ⟨by rw [hbf]; exact BRow.start wq i⟩
    have HQ0 := Aside0.mk ((Below.refl wq.heap.size wq).alloc (Nat.le_refl _) (.cells (Array.replicate i (Value.bool false)) 4 (0, 0)))
    have HLO : Aside0 (wq.heap.size ≤ bf) := ⟨by omega⟩
    rw [← hbf]
    clear hbf
    generalize wq.alloc (.cells (Array.replicate i (Value.bool false)) 4 (0, 0)) = w7 at HFB0 HQ0 ⊢
    have HK5 : Aside0 (∀ wx, Below wq.heap.size wq wx → Below w5.heap.size w5 wx ∧ Below w.heap.size w wx) := ⟨fun wx hx => ⟨HBK.out.trans (hx.mono HBK.out.size), HBW.out.trans (hx.mono HBW.out.size)⟩⟩
    have HT0 : Aside0 (footT pl (adL outs tos v) i K 0 = (List.replicate i false, 0)) := ⟨rfl⟩
    go_wp2_with fail
    go_loopw [21, 23] (fun y1 y2 ws => ∃ (q n : Nat) (F : List Bool), y1 = .int .i64 (n : Int) ∧ y2 = .int .i64 (q : Int) ∧ q ≤ L ∧ Aside0 (footT pl (adL outs tos v) i K q = (F, n)) ∧ Aside0 (BRow ws bf F) ∧ Aside0 (Below wq.heap.size wq ws)) (fun _ y _ => L - (intOf y).toNat)
    case atStart => exact ⟨0, 0, _, rfl, rfl, by omega, HT0, HFB0, HQ0⟩
    case round =>
     clear HT0 HFB0 HQ0
     obtain ⟨q, n, F, rfl, rfl, hq, HT, HFB, HQ⟩ := hrel
     have hx := ((HK5.out wr HQ.out).1.cell (cell_lt HXC.out)).trans HXC.out
     have hFl := footT_len pl (adL outs tos v) i K q
     rw [HT.out] at hFl
     have HFL : Aside0 (F.length = i) := ⟨hFl.1⟩
     have hnq : n ≤ q := hFl.2
     clear hFl
     by_cases hql : q < L
     ·have s1 : decide ((q : Int) < (L : Int)) = true := decide_eq_true (by omega)
      obtain ⟨h, hh⟩ := Int.eq_ofNat_of_zero_le (HRI.out q (by rw [← HLL.out]; exact hql)).1
      have hhm : h < 2 * m := by have := (HRI.out q (by rw [← HLL.out]; exact hql)).2; omega
      obtain ⟨adD, eD, z1⟩ := Kd.at_int (Kd.C_below HROW.out (HK5.out wr HQ.out).1) (q : Int) (by omega) (by have := HLL.out; omega)
      subst eD
      rw [gi_rd, Int.toNat_natCast, hh] at z1
      have z1' : wr.cell? (adD.add q) = some (.int .i64 (h : Int)) := z1
      obtain ⟨u, hu⟩ := Int.eq_ofNat_of_zero_le (HTO.out h hhm).1
      have hui : u < i := by have := (HTO.out h hhm).2; omega
      have HTC : Aside0 (∀ W, Below wq.heap.size wq W → Calls Try.prog 42 #[.agg #[.int .i64 (i : Int), .slice A m c0], .int .i64 (h : Int)] W fun e w' => e = .returned (.int .i64 (u : Int)) ∧ Below W.heap.size W w') := ⟨fun W hW => by
       have h1 := C42.out W (HK5.out W hW).2 h hhm
       rw [hu] at h1
       exact h1⟩
      have HU : Aside0 (gi (adL outs tos v) q = (u : Int)) := ⟨by rw [gi_adL (by rw [← HHS.out, ← HLL.out]; exact hql), ← HHS.out, hh, Int.toNat_natCast, hu]⟩
      have x0 : wr.cell? ⟨bg, 0, none⟩ = some (.int .i64 (i : Int)) := heap_cell (((HK5.out wr HQ.out).1.block _ (lt_of HX5.out)).trans HX5.out) rfl
      have x1 : wr.cell? ⟨bg, 1, none⟩ = some (.slice A m c0) := heap_cell (((HK5.out wr HQ.out).1.block _ (lt_of HX5.out)).trans HX5.out) rfl
      have gu : (u : Int) < (i : Int) := by omega
      clear hh hu z1
      go_wp2_with fail
      go_still_tail 8, (by kernel_rfl)
      have HF5 : Aside0 (BRow wr.drew bf F) := ⟨HFB.out⟩
      have HQ5 : Aside0 (Below wq.heap.size wq wr.drew) := ⟨HQ.out.drew⟩
      change wpList _ _ _ _ _ wr.drew
      generalize wr.drew = wd at HF5 HQ5 ⊢
      clear hx x0 x1 z1' HFB HQ
      go_wp2_with fail
      refine (HTC.out wd HQ5.out).mono ?_
      rintro e w9 ⟨rfl, hb⟩
      have HF9 : Aside0 (BRow w9 bf F) := ⟨(hb.block _ (lt_of HF5.out)).trans HF5.out⟩
      have HQ9 := Aside0.mk (HQ5.out.trans (hb.mono HQ5.out.size))
      clear hb HF5 HQ5 HTC
      have c1 := (show IRow w9 bt pl from (((HK5.out w9 HQ9.out).1.block _ (lt_of HT5.out)).trans HT5.out)).cell (i := u) (by rw [HPL.out]; exact hui)
      obtain ⟨pu, hpu⟩ : ∃ y, y = gi pl u := ⟨_, rfl⟩
      rw [← hpu] at c1
      by_cases hlk : pu < (K : Int)
      ·have t1 : decide (pu < (K : Int)) = true := decide_eq_true hlk
       have HT2 : Aside0 (footT pl (adL outs tos v) i K (q + 1) = (F.set u true, n + 1)) := ⟨by
        conv => lhs; unfold footT
        rw [HU.out, Int.toNat_natCast, ← hpu, if_pos hlk, HT.out]⟩
       have f1 := HF9.out.free u
       have d1 := HF9.out.cell (i := u) (by rw [HFL.out]; exact hui)
       have HF10 := Aside0.mk (HF9.out.put u true)
       have HQ10 := Aside0.mk (HQ9.out.setCell (p := ⟨bf, u, none⟩) HLO.out (.bool true))
       clear hlk hpu HT HF9 HQ9
       go_wp2_with fail
       clear c1 f1 d1 t1 s1
       go_roundw
       case rel => exact ⟨q + 1, n + 1, _, by go_num, by go_num, by omega, HT2, HF10, HQ10⟩
       case measure => simp [intOf]; omega
      ·have t1 : decide (pu < (K : Int)) = false := decide_eq_false hlk
       have HT2 : Aside0 (footT pl (adL outs tos v) i K (q + 1) = (F, n)) := ⟨by
        conv => lhs; unfold footT
        rw [HU.out, Int.toNat_natCast, ← hpu, if_neg hlk, HT.out]⟩
       clear hlk hpu HT
       go_wp2_with fail
       clear c1 t1 s1
       go_roundw
       case rel => exact ⟨q + 1, n, F, rfl, by go_num, by omega, HT2, HF9, HQ9⟩
       case measure => simp [intOf]; omega
     ·obtain rfl : q = L := by omega
      have s1 : decide ((q : Int) < (q : Int)) = false := decide_eq_false (by omega)
      have hTL : footT pl (adL outs tos v) i K (adL outs tos v).length = (F, n) := by rw [adL_length, ← HHS.out, ← HLL.out]; exact HT.out
      have HTL := Aside0.mk hTL
      have hnb : n ≤ 9000000 := by omega
      have HSHC : Aside0 (∀ wx, Below wq.heap.size wq wx → Kd.C (Kd.int .i64) wx As sh.length sh) := ⟨fun wx hx => (Kd.R_reads' (Kd.R_below HR.out hx)).2.2⟩
      have HN0 : Aside0 (∀ j, j < 0 → gb F (gi sh j).toNat = false) := ⟨fun j hj => by omega⟩
      have HFPL := HFL
      clear hql hq hTL HT
      go_wp2_with fail
      clear hx s1
      go_loopw [25] (fun y wx => ∃ f : Nat, y = .int .i64 (f : Int) ∧ f ≤ sh.length ∧ Aside0 (∀ j, j < f → gb F (gi sh j).toNat = false) ∧ wx = wr) (fun y _ => sh.length - (intOf y).toNat)
      case atStart => exact ⟨0, rfl, by omega, HN0, rfl⟩
      case round =>
       clear HN0
       obtain ⟨f, rfl, hf, HN, rfl⟩ := hrel
       by_cases hgo : f < sh.length ∧ gb F (gi sh f).toNat = false
       ·obtain ⟨hfl, hgb⟩ := hgo
        have s1 : decide ((f : Int) < (sh.length : Int)) = true := decide_eq_true (by omega)
        obtain ⟨ads, eS, z1⟩ := Kd.at_int (HSHC.out _ HQ.out) (f : Int) (by omega) (by omega)
        subst eS
        rw [gi_rd, Int.toNat_natCast] at z1
        have hxr := HSHR.out (gi sh f) (by unfold gi; rw [List.getD_eq_getElem?_getD, List.getElem?_eq_getElem hfl]; exact List.getElem_mem hfl)
        obtain ⟨x, hx⟩ := Int.eq_ofNat_of_zero_le hxr.1
        have hxi : x < i := by omega
        rw [hx] at z1
        have hgx : (x : Int) < (i : Int) := by omega
        have d1 := HFB.out.cell (i := x) (by rw [HFL.out]; exact hxi)
        have hgb2 : gb F x = false := by rw [hx, Int.toNat_natCast] at hgb; exact hgb
        rw [hgb2] at d1
        have HN2 : Aside0 (∀ j, j < f + 1 → gb F (gi sh j).toNat = false) := ⟨fun j hj => by
         rcases Nat.lt_or_ge j f with g | g
         ·exact HN.out j g
         ·obtain rfl : j = f := by omega
          exact hgb⟩
        clear hgb2 hxr hx hgb
        go_wp2_with fail
        clear z1 d1 s1
        go_roundw
        case rel => exact ⟨f + 1, by go_num, by omega, HN2, by first | rfl | trivial⟩
        case measure => simp [intOf]; omega
       ·have hdone : f = sh.length ∨ gb F (gi sh f).toNat = true := by
         rcases Nat.lt_or_ge f sh.length with g | g
         ·right
          cases hc : gb F (gi sh f).toNat with
          | true => rfl
          | false => exact absurd ⟨g, hc⟩ hgo
         ·left; omega
        have hfirst := firstT_at F sh f hf HN.out hdone
        have HST := Aside0.mk (stepF_eq HTL.out hfirst)
        have HDONE := Aside0.mk hdone
        have HFF := Aside0.mk hgo
        clear hdone hfirst hgo HN
        have HBR : Aside0 (Below w.heap.size w wr) := ⟨(HK5.out wr HQ.out).2⟩
        obtain ⟨m1, hm1⟩ : ∃ m1, m1 = f + n := ⟨_, rfl⟩
        have q1 : IntKind.i64.wrap ((f : Int) + (n : Int)) = (m1 : Int) := by rw [IntWalk.i64_in _ (by omega)]; omega
        have HM1 := Aside0.mk hm1
        have hm1b : m1 ≤ 18000000 := by omega
        clear hm1
        obtain ⟨len, hlen⟩ : ∃ len, len = sh.length := ⟨_, rfl⟩
        have HLEN := Aside0.mk hlen
        rw [← hlen] at hf hslb ⊢
        clear hlen
        have hnone : n < 2 ∨ len < m1 → res = none := fun h => HNO.out (by
         rw [HST.out, if_pos]
         rw [← HLEN.out, ← HM1.out]
         exact h)
        have HNN := Aside0.mk hnone
        clear hnone
        by_cases hfl : f < len
        rotate_left
        ·have s1 : decide ((f : Int) < (len : Int)) = false := decide_eq_false (by omega)
         have hm2 : len < m1 ∨ n < 2 := by have := HM1.out; omega
         have hres := HNN.out (by omega)
         subst hres
         by_cases hn2 : n < 2
         ·have s2 : decide ((n : Int) < 2) = true := decide_eq_true (by omega)
          go_wp2_with fail
          go_ret2
          exact ⟨by simp, HBR.out⟩
         ·have s2 : decide ((n : Int) < 2) = false := decide_eq_false (by omega)
          have s3 : decide ((m1 : Int) > (len : Int)) = true := decide_eq_true (by omega)
          have s4 : decide ((len : Int) < (m1 : Int)) = true := decide_eq_true (by omega)
          have s5 : decide (len < m1) = true := decide_eq_true (by omega)
          go_wp2_with fail
          go_ret2
          exact ⟨by simp, HBR.out⟩
        have s1 : decide ((f : Int) < (len : Int)) = true := decide_eq_true (by omega)
        have hgb : gb F (gi sh f).toNat = true := by
         rcases HDONE.out with g | g
         ·exfalso; have := HLEN.out; omega
         ·exact g
        obtain ⟨ads, eS, z1⟩ := Kd.at_int (HSHC.out _ HQ.out) (f : Int) (by omega) (by have := HLEN.out; omega)
        subst eS
        rw [gi_rd, Int.toNat_natCast] at z1
        have hfs : f < sh.length := by have := HLEN.out; omega
        have hxr := HSHR.out (gi sh f) (by unfold gi; rw [List.getD_eq_getElem?_getD, List.getElem?_eq_getElem hfs]; exact List.getElem_mem hfs)
        obtain ⟨x, hx⟩ := Int.eq_ofNat_of_zero_le hxr.1
        have hxi : x < i := by omega
        rw [hx] at z1
        have hgx : (x : Int) < (i : Int) := by omega
        have d1 := HFB.out.cell (i := x) (by rw [HFL.out]; exact hxi)
        have hgb2 : gb F x = true := by rw [hx, Int.toNat_natCast] at hgb; exact hgb
        rw [hgb2] at d1
        clear hgb2 hxr hx hgb hfs
        by_cases hn2 : n < 2
        ·have s2 : decide ((n : Int) < 2) = true := decide_eq_true (by omega)
         have hres := HNN.out (.inl hn2)
         subst hres
         go_wp2_with fail
         go_ret2
         exact ⟨by simp, HBR.out⟩
        have s2 : decide ((n : Int) < 2) = false := decide_eq_false (by omega)
        by_cases hm2 : len < m1
        ·have s3 : decide ((m1 : Int) > (len : Int)) = true := decide_eq_true (by omega)
         have s4 : decide ((len : Int) < (m1 : Int)) = true := decide_eq_true (by omega)
         have s5 : decide (len < m1) = true := decide_eq_true (by omega)
         have hres := HNN.out (.inr hm2)
         subst hres
         go_wp2_with fail
         go_ret2
         exact ⟨by simp, HBR.out⟩
        have s3 : decide ((m1 : Int) > (len : Int)) = false := decide_eq_false (by omega)
        have s4 : decide ((len : Int) < (m1 : Int)) = false := decide_eq_false (by omega)
        have s5 : decide (len < m1) = false := decide_eq_false (by omega)
        have hst := HST.out
        rw [if_neg (by rw [← HLEN.out, ← HM1.out]; omega), ← HM1.out] at hst
        replace HST := Aside0.mk hst
        have HA0 : Aside0 (∀ t, f ≤ t → t < f → gb F (gi sh t).toNat = true) := ⟨fun t h1 h2 => by omega⟩
        have hnf : f ≤ m1 := by have := HM1.out; omega
        clear hst HNN
        go_wp2_with fail
        clear z1 d1 s1 s2 s3 s4 s5
        go_loopw [26] (fun y wx => ∃ j : Nat, y = .int .i64 (j : Int) ∧ f ≤ j ∧ j ≤ m1 ∧ Aside0 (∀ t, f ≤ t → t < j → gb F (gi sh t).toNat = true) ∧ wx = wr) (fun y _ => m1 - (intOf y).toNat)
        case atStart => exact ⟨f, rfl, Nat.le_refl _, hnf, HA0, rfl⟩
        case round =>
         clear HA0
         obtain ⟨j, rfl, hj1, hj2, HA, rfl⟩ := hrel
         by_cases hjm : j < m1
         ·have s1 : decide ((j : Int) < (m1 : Int)) = true := decide_eq_true (by omega)
          have hjl : j < sh.length := by have := HLEN.out; omega
          obtain ⟨ads, eS, z1⟩ := Kd.at_int (HSHC.out _ HQ.out) (j : Int) (by omega) (by omega)
          injection eS with eS
          subst eS
          rw [gi_rd, Int.toNat_natCast] at z1
          have hxr := HSHR.out (gi sh j) (by unfold gi; rw [List.getD_eq_getElem?_getD, List.getElem?_eq_getElem hjl]; exact List.getElem_mem hjl)
          obtain ⟨x, hx⟩ := Int.eq_ofNat_of_zero_le hxr.1
          have hxi : x < i := by omega
          rw [hx] at z1
          have hgx : (x : Int) < (i : Int) := by omega
          have hjlen : (j : Int) < (len : Int) := by omega
          have d1 := HFB.out.cell (i := x) (by rw [HFL.out]; exact hxi)
          obtain ⟨bb, hbb⟩ : ∃ bb, bb = gb F x := ⟨_, rfl⟩
          rw [← hbb] at d1
          have HX1 : Aside0 (gi sh j = (x : Int) ∧ bb = gb F x) := ⟨hx, hbb⟩
          clear hxr hx hbb hjl
          cases bb with
          | false =>
           have hres : res = none := HNO.out (by
            rw [HST.out, if_pos]
            refine any_true (j := j - f) (by rw [List.length_drop, List.length_take]; have := HLEN.out; omega) ?_
            have e : gi ((sh.take m1).drop f) (j - f) = gi sh j := by
             unfold gi
             rw [List.getD_eq_getElem?_getD, List.getD_eq_getElem?_getD, List.getElem?_drop, List.getElem?_take, if_pos (by omega), show f + (j - f) = j by omega]
            rw [e, HX1.out.1, Int.toNat_natCast, ← HX1.out.2]
            rfl)
           subst hres
           go_wp2_with fail
           go_ret2
           exact ⟨by simp, HBR.out⟩
          | true =>
           have HA2 : Aside0 (∀ t, f ≤ t → t < j + 1 → gb F (gi sh t).toNat = true) := ⟨fun t h1 h2 => by
            rcases Nat.lt_or_ge t j with g | g
            ·exact HA.out t h1 g
            ·obtain rfl : t = j := by omega
             rw [HX1.out.1, Int.toNat_natCast]
             exact HX1.out.2.symm⟩
           go_wp2_with fail
           clear z1 d1 s1
           go_roundw
           case rel => exact ⟨j + 1, by go_num, by omega, by omega, HA2, by first | rfl | trivial⟩
           case measure => simp [intOf]; omega
         ·obtain rfl : j = m1 := by omega
          have s1 : decide ((j : Int) < (j : Int)) = false := decide_eq_false (by omega)
          have hst := HST.out
          rw [if_neg (by
           rw [any_false]
           ·decide
           ·intro t ht
            rw [List.length_drop, List.length_take] at ht
            have e : gi ((sh.take j).drop f) t = gi sh (f + t) := by
             unfold gi
             rw [List.getD_eq_getElem?_getD, List.getD_eq_getElem?_getD, List.getElem?_drop, List.getElem?_take, if_pos (by omega)]
            rw [e, HA.out (f + t) (by omega) (by omega)]
            rfl)] at hst
          replace HST := Aside0.mk hst
          clear hst hjm hj2 HA
          obtain ⟨f1, hf1⟩ : ∃ f1, f1 = f + 1 := ⟨_, rfl⟩
          obtain ⟨m2, hm2'⟩ : ∃ m2, m2 = j - 1 := ⟨_, rfl⟩
          have q2 : IntKind.i64.wrap ((f : Int) + 1) = (f1 : Int) := by rw [IntWalk.i64_in _ (by omega)]; omega
          have q3 : IntKind.i64.wrap ((j : Int) - 1) = (m2 : Int) := by rw [IntWalk.i64_in _ (by have := HM1.out; omega)]; have := HM1.out; omega
          have hf1m : f1 ≤ m2 := by have := HM1.out; omega
          have hm2l : m2 < sh.length := by have := HM1.out; have := HLEN.out; omega
          have HF1 : Aside0 (f1 = f + 1 ∧ m2 + 1 = j) := ⟨hf1, by have := HM1.out; omega⟩
          have HI0 : Aside0 (∀ t, f1 ≤ t → t < f1 → (adL outs tos (gi sh t).toNat).any (fun x => decide ((K : Int) < gi pl x.toNat)) = false) := ⟨fun t h1 h2 => by omega⟩
          have Q2 := Aside0.mk q2
          clear hf1 hm2' HFB HFPL hj1 HFF HTL
          go_wp2_with fail
          clear s1 q2
          go_loopw [27] (fun y ws => ∃ g : Nat, y = .int .i64 (g : Int) ∧ f1 ≤ g ∧ g ≤ m2 ∧ Aside0 (∀ t, f1 ≤ t → t < g → (adL outs tos (gi sh t).toNat).any (fun x => decide ((K : Int) < gi pl x.toNat)) = false) ∧ Aside0 (Below wq.heap.size wq ws)) (fun y _ => m2 - (intOf y).toNat)
          case atStart => exact ⟨f1, rfl, Nat.le_refl _, hf1m, HI0, HQ⟩
          case round =>
           clear HI0 HQ HBR
           obtain ⟨g, rfl, hg1, hg2, HI, HQ⟩ := hrel
           have HBR : Aside0 (Below w.heap.size w wr) := ⟨(HK5.out wr HQ.out).2⟩
           by_cases hgm : g < m2
           ·have s1 : decide ((g : Int) < (m2 : Int)) = true := decide_eq_true (by omega)
            have hgl : g < sh.length := by omega
            have hglen : (g : Int) < (len : Int) := by have := HLEN.out; omega
            obtain ⟨ads, eS, z1⟩ := Kd.at_int (HSHC.out _ HQ.out) (g : Int) (by omega) (by omega)
            injection eS with eS
            subst eS
            rw [gi_rd, Int.toNat_natCast] at z1
            have hxr := HSHR.out (gi sh g) (by unfold gi; rw [List.getD_eq_getElem?_getD, List.getElem?_eq_getElem hgl]; exact List.getElem_mem hgl)
            obtain ⟨x, hx⟩ := Int.eq_ofNat_of_zero_le hxr.1
            have hxi : x < i := by omega
            rw [hx] at z1
            have hxo : (x : Int) < (outs.length : Int) := by have := HOL.out; omega
            have HXG := Aside0.mk hx
            obtain ⟨_, D2, cD2, eAo, hx2, hcD2, hrow2⟩ := row_at (HOS.out w5 (Below.refl _ _)) (i := x) (by have := HOL.out; omega)
            injection eAo with eAo
            subst eAo
            obtain ⟨hrl2, hri2⟩ := HOH.out x hxi
            obtain ⟨hs2, hhs2⟩ : ∃ hs, hs = gl outs x := ⟨_, rfl⟩
            rw [← hhs2] at hx2 hcD2 hrow2 hrl2 hri2
            have HROW2 := Aside0.mk hrow2
            have HRI2 := Aside0.mk hri2
            have HHS2 := Aside0.mk hhs2
            obtain ⟨L2, hL2⟩ : ∃ L, L = hs2.length := ⟨_, rfl⟩
            have HLL2 := Aside0.mk hL2
            rw [← hL2] at hx2 hrl2 hcD2
            have HXC2 := Aside0.mk hx2
            have HZC : Aside0 (∀ W, Below wq.heap.size wq W → W.cell? (ads.add g) = some (.int .i64 (x : Int)) ∧ W.cell? (ado.add x) = some (.slice D2 L2 cD2)) := ⟨fun W hW => by
             obtain ⟨ad', e', z'⟩ := Kd.at_int (HSHC.out W hW) (g : Int) (by omega) (by omega)
             injection e' with e'
             subst e'
             rw [gi_rd, Int.toNat_natCast, HXG.out] at z'
             exact ⟨z', ((HK5.out W hW).1.cell (cell_lt HXC2.out)).trans HXC2.out⟩⟩
            have HJ0 : Aside0 (∀ t, t < 0 → decide ((K : Int) < gi pl (gi (adL outs tos x) t).toNat) = false) := ⟨fun t h => by omega⟩
            clear hx2 hrow2 hri2 hhs2 hL2 hxr hx z1
            go_wp2_with fail
            clear s1
            go_loopw [28] (fun y ws => ∃ q : Nat, y = .int .i64 (q : Int) ∧ q ≤ L2 ∧ Aside0 (∀ t, t < q → decide ((K : Int) < gi pl (gi (adL outs tos x) t).toNat) = false) ∧ Aside0 (Below wq.heap.size wq ws)) (fun y _ => L2 - (intOf y).toNat)
            case atStart => exact ⟨0, rfl, by omega, HJ0, HQ⟩
            case round =>
             clear HJ0 HQ HBR
             obtain ⟨q, rfl, hq, HJ, HQ⟩ := hrel
             have HBR : Aside0 (Below w.heap.size w wr) := ⟨(HK5.out wr HQ.out).2⟩
             obtain ⟨z1, z2⟩ := HZC.out wr HQ.out
             by_cases hql : q < L2
             ·have s1 : decide ((q : Int) < (L2 : Int)) = true := decide_eq_true (by omega)
              obtain ⟨h, hh⟩ := Int.eq_ofNat_of_zero_le (HRI2.out q (by rw [← HLL2.out]; exact hql)).1
              have hhm : h < 2 * m := by have := (HRI2.out q (by rw [← HLL2.out]; exact hql)).2; omega
              obtain ⟨adD2, eD, z3⟩ := Kd.at_int (Kd.C_below HROW2.out (HK5.out wr HQ.out).1) (q : Int) (by omega) (by have := HLL2.out; omega)
              subst eD
              rw [gi_rd, Int.toNat_natCast, hh] at z3
              have z3' : wr.cell? (adD2.add q) = some (.int .i64 (h : Int)) := z3
              obtain ⟨u, hu⟩ := Int.eq_ofNat_of_zero_le (HTO.out h hhm).1
              have hui : u < i := by have := (HTO.out h hhm).2; omega
              have HTC : Aside0 (∀ W, Below wq.heap.size wq W → Calls Try.prog 42 #[.agg #[.int .i64 (i : Int), .slice A m c0], .int .i64 (h : Int)] W fun e w' => e = .returned (.int .i64 (u : Int)) ∧ Below W.heap.size W w') := ⟨fun W hW => by
               have h1 := C42.out W (HK5.out W hW).2 h hhm
               rw [hu] at h1
               exact h1⟩
              have HU : Aside0 (gi (adL outs tos x) q = (u : Int)) := ⟨by rw [gi_adL (by rw [← HHS2.out, ← HLL2.out]; exact hql), ← HHS2.out, hh, Int.toNat_natCast, hu]⟩
              have x0 : wr.cell? ⟨bg, 0, none⟩ = some (.int .i64 (i : Int)) := heap_cell (((HK5.out wr HQ.out).1.block _ (lt_of HX5.out)).trans HX5.out) rfl
              have x1 : wr.cell? ⟨bg, 1, none⟩ = some (.slice A m c0) := heap_cell (((HK5.out wr HQ.out).1.block _ (lt_of HX5.out)).trans HX5.out) rfl
              have gu : (u : Int) < (i : Int) := by omega
              have c1 := (show IRow wr bt pl from (((HK5.out wr HQ.out).1.block _ (lt_of HT5.out)).trans HT5.out)).cell (i := u) (by rw [HPL.out]; exact hui)
              obtain ⟨pu, hpu⟩ : ∃ y, y = gi pl u := ⟨_, rfl⟩
              rw [← hpu] at c1
              have HPU := Aside0.mk hpu
              clear hh hu z3 hpu
              obtain ⟨bb, hbb⟩ : ∃ bb, bb = decide (pu > (K : Int)) := ⟨_, rfl⟩
              have t2 := hbb.symm
              have HBB : Aside0 (bb = decide ((K : Int) < pu)) := ⟨hbb⟩
              have hbb2 : decide ((K : Int) < pu) = bb := hbb.symm
              clear hbb
              go_wp2_with fail
              refine start_ (n := 17) (S := fun w' => w'.cell? ⟨bg, 0, none⟩ = some (.int .i64 (i : Int)) ∧ w'.cell? ⟨bg, 1, none⟩ = some (.slice A m c0) ∧ w'.cell? (ads.add g) = some (.int .i64 (x : Int)) ∧ w'.cell? (ado.add x) = some (.slice (some adD2) L2 cD2) ∧ w'.cell? (adD2.add q) = some (.int .i64 (h : Int)) ∧ w'.cell? ⟨bt, u, none⟩ = some (.int .i64 pu) ∧ Aside0 (Below wq.heap.size wq w')) (ds := []) (bm9 17 0) (by kernel_rfl) rfl rfl ⟨x0, x1, z1, z2, z3', c1, ⟨HQ.out.drew⟩⟩ (fun hHeld => ?_)
              refine pu9 0 198 (bm9 17 1) ?_
              refine pu9 2 200 (bm9 17 5) ?_
              refine pu9 3 201 (bm9 17 13) ?_
              refine pu9 4 202 (bm9 17 29) ?_
              refine pu9 5 203 (bm9 17 61) ?_
              refine pu9 9 207 (bm9 17 573) ?_
              refine pu9 15 213 (bm9 17 33341) ?_
              refine tk79 1 199 (bm9 17 33343) hHeld ?_
              refine tk79 6 204 (bm9 17 33407) hHeld ?_
              refine pu9 7 205 (bm9 17 33535) ?_
              refine tk79 8 206 (bm9 17 33791) hHeld ?_
              refine pu9 10 208 (bm9 17 34815) ?_
              refine tk79 11 209 (bm9 17 36863) hHeld ?_
              refine one_ (i := 12) (N := some 210) (bm9 17 40959) rfl rfl (by kernel_rfl) (by decide) (fun K hK => ?_)
              obtain ⟨h1, h2, h3, h4, h5, h6, h7⟩ := hHeld
              refine goes_ Try.func42 (by kernel_rfl) rfl #[.agg #[.int .i64 (i : Int), .slice A m c0], .int .i64 (h : Int)] (by rfl) rfl rfl (by simp only [List.map_toArray, List.map_cons, List.map_nil]; rfl) ?_
              with_reducible refine (HTC.out _ h7.out).mono ?_
              rintro e w9 ⟨rfl, hb⟩
              refine ⟨_, rfl, ?_⟩
              have HQ9 := Aside0.mk (h7.out.trans (hb.mono h7.out.size))
              have h1' := (hb.cell (cell_lt h1)).trans h1
              have h2' := (hb.cell (cell_lt h2)).trans h2
              have h3' := (hb.cell (cell_lt h3)).trans h3
              have h4' := (hb.cell (cell_lt h4)).trans h4
              have h5' := (hb.cell (cell_lt h5)).trans h5
              have h6' := (hb.cell (cell_lt h6)).trans h6
              clear hb h1 h2 h3 h4 h5 h6 h7
              refine hK.out _ _ ⟨h1', h2', h3', h4', h5', h6', HQ9⟩ (fun hHeld => ?_)
              clear hK K
              refine nm9 ?_
              refine pu9 13 211 (bm9 17 49151) ?_
              refine tk79 14 212 (bm9 17 65535) hHeld ?_
              refine pu9 16 214 (bm9 17 131071) ?_
              refine done_ (by kernel_rfl) ?_
              obtain ⟨h1, h2, h3, h4, h5, h6, HQ9⟩ := hHeld
              clear h1 h2 h3 h4 h5 h6 z1 z2 x0 x1 z3' c1 HTC HQ
              clear t2 hbb2
              cases bb with
              | true =>
               have hres : res = none := HNO.out (by
                rw [HST.out, if_pos]
                refine any_true (j := g - f1) (by rw [List.length_drop, List.length_take]; have := HF1.out; omega) ?_
                have e : gi ((sh.take (j - 1)).drop (f + 1)) (g - f1) = gi sh g := by
                 unfold gi
                 rw [List.getD_eq_getElem?_getD, List.getD_eq_getElem?_getD, List.getElem?_drop, List.getElem?_take, if_pos (by have := HF1.out; omega), show f + 1 + (g - f1) = g by have := HF1.out; omega]
                rw [e, HXG.out, Int.toNat_natCast]
                refine any_true (j := q) (by rw [adL_length, ← HHS2.out, ← HLL2.out]; exact hql) ?_
                rw [HU.out, Int.toNat_natCast, ← HPU.out]
                exact HBB.out.symm)
               subst hres
               go_wp2_with fail
               go_ret2
               exact ⟨by simp, (HK5.out _ HQ9.out).2⟩
              | false =>
               have HJ2 : Aside0 (∀ t, t < q + 1 → decide ((K : Int) < gi pl (gi (adL outs tos x) t).toNat) = false) := ⟨fun t h1 => by
                rcases Nat.lt_or_ge t q with g | g
                ·exact HJ.out t g
                ·obtain rfl : t = q := by omega
                 rw [HU.out, Int.toNat_natCast, ← HPU.out]
                 exact HBB.out.symm⟩
               go_wp2_with fail
               clear s1
               go_roundw
               case rel => exact ⟨q + 1, by go_num, by omega, HJ2, HQ9⟩
               case measure => simp [intOf]; omega
             ·obtain rfl : q = L2 := by omega
              have s1 : decide ((q : Int) < (q : Int)) = false := decide_eq_false (by omega)
              have HI2 : Aside0 (∀ t, f1 ≤ t → t < g + 1 → (adL outs tos (gi sh t).toNat).any (fun x => decide ((K : Int) < gi pl x.toNat)) = false) := ⟨fun t h1 h2 => by
               rcases Nat.lt_or_ge t g with g' | g'
               ·exact HI.out t h1 g'
               ·obtain rfl : t = g := by omega
                rw [HXG.out, Int.toNat_natCast]
                exact any_false (fun y hy => HJ.out y (by rw [adL_length, ← HHS2.out, ← HLL2.out] at hy; exact hy))⟩
              go_wp2_with fail
              clear z1 z2 s1
              go_roundw
              case rel => exact ⟨g + 1, by go_num, by omega, by omega, HI2, HQ⟩
              case measure => simp [intOf]; omega
           ·obtain rfl : g = m2 := by omega
            have s1 : decide ((g : Int) < (g : Int)) = false := decide_eq_false (by omega)
            have hst := HST.out
            rw [if_neg (by
             rw [any_false]
             ·decide
             ·intro t ht
              rw [List.length_drop, List.length_take] at ht
              have e : gi ((sh.take (j - 1)).drop (f + 1)) t = gi sh (f + 1 + t) := by
               unfold gi
               rw [List.getD_eq_getElem?_getD, List.getD_eq_getElem?_getD, List.getElem?_drop, List.getElem?_take, if_pos (by omega)]
              rw [e]
              exact HI.out (f + 1 + t) (by have := HF1.out; omega) (by have := HF1.out; omega))] at hst
            obtain ⟨fl, hfl0⟩ : ∃ fl, fl = (sh.take j).drop f := ⟨_, rfl⟩
            obtain ⟨T1, hT1⟩ : ∃ T, T = sh.take f1 := ⟨_, rfl⟩
            obtain ⟨T2, hT2⟩ : ∃ T, T = sh.drop g := ⟨_, rfl⟩
            rw [← hfl0, show j - 1 = g by have := HF1.out; omega, ← HF1.out.1, ← hT1, ← hT2] at hst
            have HFT2 : Aside0 (feetT pl (adL outs tos) i a b l (k + 1) = some (out.set K fl, T1 ++ [(v : Int)] ++ T2)) := ⟨by rw [HNX.out _ hst]; rfl⟩
            have hCs := HSHC.out wr HQ.out
            have hcap : sh.length ≤ cs := (Kd.R_reads' HR.out).2.1
            have hb0 : Below wr.heap.size wr (wr.alloc (.cells #[] 3 (0, 0))) := (Below.refl _ _).alloc (Nat.le_refl _) _
            obtain ⟨Xf, qf, hCf⟩ := mid_reads (a := f) (b := j) (c := cs) hCs hcap hnf (by have := HLEN.out; omega)
            rw [← HLEN.out] at qf
            rw [← hfl0] at hCf
            obtain ⟨Mf, hMf⟩ : ∃ M, M = j - f := ⟨_, rfl⟩
            rw [← hMf] at qf hCf
            have hfll : fl.length = Mf := by rw [hfl0, List.length_drop, List.length_take]; have := HLEN.out; omega
            have HO : Aside0 (Kd.R (Kd.int .i64) 3 (wr.alloc (.cells #[] 3 (0, 0))) wr.heap.size (fun _ => True) (.slice (some ⟨wr.heap.size, 0, none⟩) 0 0) []) := ⟨Kd.R_of_own (World.ownsRow_lit (base := wr.heap.size) (size := 1) (e := 3) wr #[] 0 (Nat.le_refl _) (by unfold maxLen; omega) rfl) (fun _ _ => trivial)⟩
            have HLR := Aside0.mk (Kd.C_below hCf hb0)
            have HB3 := Aside0.mk hb0
            have HZL : Aside0 ((([] : List Int).length + Mf) * 8 ≤ 140737488355328) := ⟨by rw [hMf]; have := HLEN.out; simp; omega⟩
            have HT1 := Aside0.mk (And.intro hT1 (And.intro hT2 hfll))
            have HCAP := Aside0.mk hcap
            have hjc : j ≤ cs := by have := HLEN.out; omega
            have hfj : f ≤ j := hnf
            have q2 := Q2.out
            clear hst hfl0 hT1 hT2 hCs hcap hb0 hCf hMf hfll hgm hg2 HI
            go_wp2_with (at_builtin; go_loud (refine Kd.R_append_rows (Kd.int .i64) (Rr := (Kd.int .i64).K (wr.alloc (.cells #[] 3 (0, 0)))) (w0 := wr) (W := wr.alloc (.cells #[] 3 (0, 0))) wr.heap.size rfl _ _ 27 3 (.int .i64 0) 8 rfl Try.underlying27 info_int rfl (by decide) (by decide) (.slice (some ⟨wr.heap.size, 0, none⟩) 0 0) [] fl Xf Mf (cs - f) (fun _ => True) (fun _ => False) rfl rfl HO.out HLR.out (fun _ _ h => h) (fun _ h => h.elim) (fun _ _ => trivial) HB3.out HB3.out.size HZL.out ?_))
            intro v3 w3 hR3 hb3 hg3 hat3
            clear hat3 hg3
            obtain ⟨A3, c3, rfl⟩ := Kd.R_slice hR3
            have HRWz := Aside0.mk (HRW.out.below HQ.out)
            have HRW3 := Aside0.mk (HRWz.out.below hb3)
            have hol2 := HOL2.out
            have y1 := HRW3.out.cell (j := K) (by omega)
            have y2 := HRW3.out.free K
            have HQ3 := Aside0.mk (HQ.out.trans (hb3.mono HQ.out.size))
            obtain ⟨M3, hM3⟩ : ∃ M3, M3 = fl.length := ⟨_, rfl⟩
            have hR3' : Kd.R (Kd.int .i64) 3 w3 wr.heap.size (fun _ => True) (.slice A3 M3 c3) fl := by rw [hM3]; exact hR3
            have HRW4 : Aside0 (Rows2 (w3.setCell ⟨bo, K, none⟩ (.slice A3 M3 c3)) (bo + 1) bo (vs.set K (.slice A3 M3 c3)) (out.set K fl)) := ⟨HRWz.out.put hb3 (by omega) (Kd.own_of_R hR3')⟩
            have HR4 := Aside0.mk (Kd.R_set (Kd.R_below HR.out HQ3.out) HRW3.out.out (by decide) K (.slice A3 M3 c3))
            have HB4 : Aside0 (Below w5.heap.size w5 (w3.setCell ⟨bo, K, none⟩ (.slice A3 M3 c3))) := ⟨(HK5.out w3 HQ3.out).1.setCell (p := ⟨bo, K, none⟩) (by have := HBQ.out; show w5.heap.size ≤ bo; omega) (.slice A3 M3 c3)⟩
            have hKi : (K : Int) < (i : Int) := by omega
            first | rw [← hM3] | (simp only [List.length_nil, Nat.zero_add]; rw [← hM3])
            clear hM3 hR3 hR3' hb3 HO HLR HB3 HZL HRWz HRW3 hol2 qf hjc hfj
            go_upto_region 45 with (fail)
            clear y1 y2 s1
            generalize w3.setCell ⟨bo, K, none⟩ (.slice A3 M3 c3) = w4 at HRW4 HR4 HB4 ⊢
            have hCs := (Kd.R_reads' HR4.out).2.2
            have hcap := HCAP.out
            obtain ⟨X1, qa, hC1⟩ := to_reads (a := f1) (c := cs) hCs hcap (by have := HF1.out; omega)
            obtain ⟨X2, qb, hC2⟩ := from_reads (a := g) (c := cs) hCs hcap (by omega)
            rw [← HLEN.out] at qa qb hC2
            rw [← HT1.out.1] at hC1
            rw [← HT1.out.2.1] at hC2
            have hf1c : f1 ≤ cs := by omega
            have hglen : g ≤ len := by have := HLEN.out; omega
            have HC2 := Aside0.mk hC2
            have hb0 : Below w4.heap.size w4 (w4.alloc (.cells #[] 3 (0, 0))) := (Below.refl _ _).alloc (Nat.le_refl _) _
            have HO : Aside0 (Kd.R (Kd.int .i64) 3 (w4.alloc (.cells #[] 3 (0, 0))) w4.heap.size (fun _ => True) (.slice (some ⟨w4.heap.size, 0, none⟩) 0 0) []) := ⟨Kd.R_of_own (World.ownsRow_lit (base := w4.heap.size) (size := 1) (e := 3) w4 #[] 0 (Nat.le_refl _) (by unfold maxLen; omega) rfl) (fun _ _ => trivial)⟩
            have HLR := Aside0.mk (Kd.C_below hC1 hb0)
            have HB3 := Aside0.mk hb0
            have HZL : Aside0 ((([] : List Int).length + f1) * 8 ≤ 140737488355328) := ⟨by have := HLEN.out; simp; omega⟩
            clear hCs hcap hC1 hC2 hb0
            go_wp2_with (at_builtin; go_loud (refine Kd.R_append_rows (Kd.int .i64) (Rr := (Kd.int .i64).K (w4.alloc (.cells #[] 3 (0, 0)))) (w0 := w4) (W := w4.alloc (.cells #[] 3 (0, 0))) w4.heap.size rfl _ _ 27 3 (.int .i64 0) 8 rfl Try.underlying27 info_int rfl (by decide) (by decide) (.slice (some ⟨w4.heap.size, 0, none⟩) 0 0) [] T1 X1 f1 cs (fun _ => True) (fun _ => False) rfl rfl HO.out HLR.out (fun _ _ h => h) (fun _ h => h.elim) (fun _ _ => trivial) HB3.out HB3.out.size HZL.out ?_))
            intro v4 w5' hR5 hb5 hg5 hat5
            clear hat5 hg5
            obtain ⟨A5, c5, rfl⟩ := Kd.R_slice hR5
            have hT1l : T1.length = f1 := by rw [HT1.out.1, List.length_take]; have := HF1.out; omega
            have HT1L := Aside0.mk hT1l
            have HR5 := Aside0.mk hR5
            have HBw5 := Aside0.mk hb5
            have HS5 : Aside0 (w4.heap.size ≤ w5'.heap.size) := ⟨hb5.size⟩
            have HLB5 : Aside0 ((T1.length + 1) * 8 ≤ 140737488355328) := ⟨by rw [hT1l]; have := HLEN.out; omega⟩
            clear hR5 hb5 hT1l HO HLR HB3 HZL qa
            go_wp2_with ((with_reducible refine gate_builtin (b := .append) (xs := #[.tmp 232, .tmp 234]) rfl ?_); at_builtin; refine Kd.R_append (Kd.int .i64) (w0 := w4) (W := w5') w4.heap.size rfl (.tmp 232) (.tmp 234) 27 3 (.int .i64 0) 8 rfl Try.underlying27 info_int rfl (by decide) (by omega) (.slice A5 T1.length c5) T1 (v : Int) [.int .i64 (v : Int)] (fun _ => True) (fun _ => False) rfl rfl rfl (fun _ hk => hk.elim) (fun _ _ => trivial) HR5.out HBw5.out HS5.out HLB5.out ?_)
            intro v6 w6' hR6 hb6 hg6 hat6
            clear hat6 hg6
            obtain ⟨A6, c6, rfl⟩ := Kd.R_slice hR6
            have HE : Aside0 ((T1 ++ [(v : Int)]).length = f1 + 1) := ⟨by rw [List.length_append, HT1L.out]; rfl⟩
            obtain ⟨T3, hT3⟩ : ∃ T, T = T1 ++ [(v : Int)] := ⟨_, rfl⟩
            rw [← hT3] at hR6 HE ⊢
            have HR6 := Aside0.mk hR6
            have HBw6 := Aside0.mk hb6
            have HS6 : Aside0 (w4.heap.size ≤ w6'.heap.size) := ⟨hb6.size⟩
            have HC6 := Aside0.mk (Kd.C_below HC2.out hb6)
            have HZL2 : Aside0 ((T3.length + (len - g)) * 8 ≤ 140737488355328) := ⟨by rw [HE.out]; have := HLEN.out; omega⟩
            have HT3 := Aside0.mk hT3
            have hgc : g ≤ cs := by have := HCAP.out; have := HLEN.out; omega
            clear hT3 hR6 hb6 HR5 HBw5 HS5 HLB5
            go_wp2_with (at_builtin; go_loud (refine Kd.R_append_rows (Kd.int .i64) (Rr := (Kd.int .i64).K w6') (w0 := w4) (W := w6') w4.heap.size rfl _ _ 27 3 (.int .i64 0) 8 rfl Try.underlying27 info_int rfl (by decide) (by decide) (.slice A6 T3.length c6) T3 T2 X2 (len - g) (cs - g) (fun _ => True) (fun _ => False) rfl rfl HR6.out HC6.out (fun _ _ h => h) (fun _ h => h.elim) (fun _ _ => trivial) HBw6.out HS6.out HZL2.out ?_))
            intro v7 w7' hR7 hb7 hg7 hat7
            clear hat7 hg7
            obtain ⟨A7, c7, rfl⟩ := Kd.R_slice hR7
            have HRf : Aside0 (Kd.R (Kd.int .i64) 3 w7' (bo + 1) (fun _ => True) (.slice A7 (T3 ++ T2).length c7) (T3 ++ T2)) := ⟨Kd.R_lower hR7 (by have := lt_of HRW4.out.out; omega)⟩
            have HRWf := Aside0.mk (HRW4.out.below hb7)
            have HBf : Aside0 (Below w5.heap.size w5 w7') := ⟨HB4.out.trans (hb7.mono HB4.out.size)⟩
            have HFTf : Aside0 (feetT pl (adL outs tos) i a b l (k + 1) = some (out.set K fl, T3 ++ T2)) := ⟨by rw [HFT2.out, HT3.out]⟩
            clear hR7 hb7 HR6 HBw6 HS6 HZL2 HC6 HC2 HRW4 HR4 HB4 HFT2
            go_wp2_with fail
            clear qb q3 q1
            go_roundw
            case rel => exact ⟨k + 1, _, _, A7, c7, _, by first | rfl | rw [List.length_append], by rw [HK.out]; go_num, by have := HK.out; omega, HFTf, HRf, HRWf, HBf⟩
            case measure => have := HK.out; simp [intOf]; omega
end Feet
namespace GAll
def tangramlaw24_k4.f  : Option (Int × (List (S41)) × (List (List Int)) × Int × List Int) := some (4, (([(⟨0, 1⟩ : S41), (⟨0, 2⟩ : S41), (⟨0, 3⟩ : S41), (⟨1, 2⟩ : S41), (⟨1, 3⟩ : S41), (⟨2, 3⟩ : S41)] : List (S41))), (([(([0, 2, 4] : List Int)), (([1, 8, 6] : List Int)), (([3, 7, 10] : List Int)), (([5, 11, 9] : List Int))] : List (List Int))), 0, (([0, 1, 2, 3] : List Int)))
theorem tangramlaw24_k4.calls  (r1 : Int) (r2 : List (S41)) (r3 : List (List Int)) (r4 : Int) (r5 : List Int) (w : World) (h : tangramlaw24_k4.f  = some (r1, r2, r3, r4, r5)) :
  Calls Try.prog 27 #[] w fun e w' => ∃ v1_ v2_ v4_ : Value, e = .returned (.agg #[.int .i64 r1, v1_, v2_, .int .i64 r4, v4_]) ∧ Kd.R k41 41 w' w.heap.size (fun k_ => (w.heap.size ≤ k_)) v1_ r2 ∧ Kd.N (Kd.slice 3 (Kd.int .i64)) 27 w' w.heap.size (fun k_ => (w.heap.size ≤ k_) ∧ some k_ ≠ (v1_ : Value).ownBlock ∧ some k_ ≠ (v4_ : Value).ownBlock) v2_ r3 ∧ Kd.R (Kd.int .i64) 3 w' w.heap.size (fun k_ => (w.heap.size ≤ k_)) v4_ r5 ∧ Below w.heap.size w w' := by
 have hu29 := Try.underlying29
 have hu41 := Try.underlying41
 have hu24 := Try.underlying24
 have HB := Aside0.mk (Below.refl w.heap.size w)
 have H : (some (4, (([(⟨0, 1⟩ : S41), (⟨0, 2⟩ : S41), (⟨0, 3⟩ : S41), (⟨1, 2⟩ : S41), (⟨1, 3⟩ : S41), (⟨2, 3⟩ : S41)] : List (S41))), (([(([0, 2, 4] : List Int)), (([1, 8, 6] : List Int)), (([3, 7, 10] : List Int)), (([5, 11, 9] : List Int))] : List (List Int))), 0, (([0, 1, 2, 3] : List Int)))) = some (r1, r2, r3, r4, r5) := h
 clear h
 obtain ⟨y208, hy208⟩ : ∃ y_ : List (S41), y_ = (([(⟨0, 1⟩ : S41), (⟨0, 2⟩ : S41), (⟨0, 3⟩ : S41), (⟨1, 2⟩ : S41), (⟨1, 3⟩ : S41), (⟨2, 3⟩ : S41)] : List (S41))) := ⟨_, rfl⟩
 replace H : (some (4, y208, (([(([0, 2, 4] : List Int)), (([1, 8, 6] : List Int)), (([3, 7, 10] : List Int)), (([5, 11, 9] : List Int))] : List (List Int))), 0, (([0, 1, 2, 3] : List Int)))) = some (r1, r2, r3, r4, r5) := by first | (rw [hy208]; exact H) | exact H
 have Ny208 := Aside0.mk hy208
 clear hy208
 obtain ⟨y212, hy212⟩ : ∃ y_ : List Int, y_ = (([0, 2, 4] : List Int)) := ⟨_, rfl⟩
 replace H : (some (4, y208, (([y212, (([1, 8, 6] : List Int)), (([3, 7, 10] : List Int)), (([5, 11, 9] : List Int))] : List (List Int))), 0, (([0, 1, 2, 3] : List Int)))) = some (r1, r2, r3, r4, r5) := by first | (rw [hy212]; exact H) | exact H
 have Ny212 := Aside0.mk hy212
 clear hy212
 obtain ⟨y215, hy215⟩ : ∃ y_ : List Int, y_ = (([1, 8, 6] : List Int)) := ⟨_, rfl⟩
 replace H : (some (4, y208, (([y212, y215, (([3, 7, 10] : List Int)), (([5, 11, 9] : List Int))] : List (List Int))), 0, (([0, 1, 2, 3] : List Int)))) = some (r1, r2, r3, r4, r5) := by first | (rw [hy215]; exact H) | exact H
 have Ny215 := Aside0.mk hy215
 clear hy215
 obtain ⟨y218, hy218⟩ : ∃ y_ : List Int, y_ = (([3, 7, 10] : List Int)) := ⟨_, rfl⟩
 replace H : (some (4, y208, (([y212, y215, y218, (([5, 11, 9] : List Int))] : List (List Int))), 0, (([0, 1, 2, 3] : List Int)))) = some (r1, r2, r3, r4, r5) := by first | (rw [hy218]; exact H) | exact H
 have Ny218 := Aside0.mk hy218
 clear hy218
 obtain ⟨y221, hy221⟩ : ∃ y_ : List Int, y_ = (([5, 11, 9] : List Int)) := ⟨_, rfl⟩
 replace H : (some (4, y208, (([y212, y215, y218, y221] : List (List Int))), 0, (([0, 1, 2, 3] : List Int)))) = some (r1, r2, r3, r4, r5) := by first | (rw [hy221]; exact H) | exact H
 have Ny221 := Aside0.mk hy221
 clear hy221
 obtain ⟨y224, hy224⟩ : ∃ y_ : List (List Int), y_ = (([y212, y215, y218, y221] : List (List Int))) := ⟨_, rfl⟩
 replace H : (some (4, y208, y224, 0, (([0, 1, 2, 3] : List Int)))) = some (r1, r2, r3, r4, r5) := by first | (rw [hy224]; exact H) | exact H
 have Ny224 := Aside0.mk hy224
 clear hy224
 obtain ⟨y227, hy227⟩ : ∃ y_ : List Int, y_ = (([0, 1, 2, 3] : List Int)) := ⟨_, rfl⟩
 replace H : (some (4, y208, y224, 0, y227)) = some (r1, r2, r3, r4, r5) := by first | (rw [hy227]; exact H) | exact H
 have Ny227 := Aside0.mk hy227
 clear hy227
 simp only [Option.some.injEq, Prod.mk.injEq] at H
 obtain ⟨rfl, rfl, rfl, rfl, rfl⟩ := H
 go_enter Try.func27, Try.ntmps27
 go_wp2_with (first | ((with_reducible refine gate_dst (N := 0) rfl ?_); refine bx9 (N := 0) (cs := #[.int .i64 0, .slice none 0 0, .slice none 0 0, .int .i64 0, .slice none 0 0]) (t := 29) ?_; intro gb207 hg w1 hbox hb; have BK207 := Aside0.mk (hbox); have GW207 := gw9 HB hg; have GE207 := gw9 HB hg; replace HB := bs9 HB hb; clear hb hbox hg) | ((with_reducible refine gate_dst (N := 8) rfl ?_); refine Kd.R_lit k41 _ 41 ?hg (N := 8) ?hd (xs := ([(⟨0, 1⟩ : S41), (⟨0, 2⟩ : S41), (⟨0, 3⟩ : S41), (⟨1, 2⟩ : S41), (⟨1, 3⟩ : S41), (⟨2, 3⟩ : S41)] : List (S41))) (inner := [.int .i64 0, .int .i64 1, .int .i64 0, .int .i64 2, .int .i64 0, .int .i64 3, .int .i64 1, .int .i64 2, .int .i64 1, .int .i64 3, .int .i64 2, .int .i64 3]) (ok := fun _ => True) (okp := fun _ => True) ?hr ?hp (fun _ hk => hk) trivial (Below.refl _ _) (Nat.le_refl _) (by simp) ?_; (case hd => rfl); (case hg => rfl); (case hr => first | (go_simp; done) | (go_simp; rfl)); (case hp => exact (Reps.c2 (show Kd.M k41 _ _ _ (⟨0, 1⟩ : S41) [.int .i64 0, .int .i64 1] from (k41_mkM _ _ _ (⟨0, 1⟩ : S41) )) (Reps.c2 (show Kd.M k41 _ _ _ (⟨0, 2⟩ : S41) [.int .i64 0, .int .i64 2] from (k41_mkM _ _ _ (⟨0, 2⟩ : S41) )) (Reps.c2 (show Kd.M k41 _ _ _ (⟨0, 3⟩ : S41) [.int .i64 0, .int .i64 3] from (k41_mkM _ _ _ (⟨0, 3⟩ : S41) )) (Reps.c2 (show Kd.M k41 _ _ _ (⟨1, 2⟩ : S41) [.int .i64 1, .int .i64 2] from (k41_mkM _ _ _ (⟨1, 2⟩ : S41) )) (Reps.c2 (show Kd.M k41 _ _ _ (⟨1, 3⟩ : S41) [.int .i64 1, .int .i64 3] from (k41_mkM _ _ _ (⟨1, 3⟩ : S41) )) (Reps.c2 (show Kd.M k41 _ _ _ (⟨2, 3⟩ : S41) [.int .i64 2, .int .i64 3] from (k41_mkM _ _ _ (⟨2, 3⟩ : S41) )) (Reps.none _ _)))))))); intro v209 w2 ho3 hb hg_ hnew_; clear hg_ hnew_; (first | rw [← Ny208.out] at ho3 | (simp only [Int.reduceToNat] at ho3; rw [← Ny208.out] at ho3)); have HO210 := Aside0.mk (Kd.R_lower (Kd.R_newM (M := fun k_ => (w.heap.size ≤ k_)) ho3 (sz9 HB) (fun k_ h_ => h_)) (sz9 HB)); replace BK207 := bb9 BK207 hb; replace HB := bs9 HB hb; clear hb ho3; obtain ⟨Ao4, co4, eo4⟩ := Kd.R_slice HO210.out; subst eo4) | ((with_reducible refine gate_dst (N := 1) rfl ?_); refine bx9 (N := 1) (cs := #[.int .i64 0, .slice none 0 0]) (t := 24) ?_; intro gb211 hg w5 hbox hb; have BK211 := Aside0.mk (hbox); have GW211 := gw9 HB hg; have GE211 := gw9 HB hg; have NB207_211 := nl9 BK207 hg; have NB211_207 := ng9 BK207 hg; replace HO210 := rb9 HO210 hb; replace BK207 := bb9 BK207 hb; replace HB := bs9 HB hb; clear hb hbox hg; have hnb6 := NB211_207.out; have hnc6 := NB207_211.out; have hcz7_0 := cz9 BK211 0; have hcz7_1 := cz9 BK211 1; have hfz7_0 := blk_frozen BK211.out 0; have hfz7_1 := blk_frozen BK211.out 1) | ((with_reducible refine gate_dst (N := 11) rfl ?_); refine Kd.R_lit (Kd.int .i64) _ 3 ?hg (N := 11) ?hd (xs := ([0, 2, 4] : List Int)) (inner := [.int .i64 0, .int .i64 2, .int .i64 4]) (ok := fun _ => True) (okp := fun _ => True) ?hr ?hp (fun _ hk => hk) trivial (Below.refl _ _) (Nat.le_refl _) (by simp) ?_; (case hd => rfl); (case hg => rfl); (case hr => first | (go_simp; done) | (go_simp; rfl)); (case hp => exact (Reps.one (show Kd.M (Kd.int .i64) _ _ _ 0 [.int .i64 0] from rfl) (Reps.one (show Kd.M (Kd.int .i64) _ _ _ 2 [.int .i64 2] from rfl) (Reps.one (show Kd.M (Kd.int .i64) _ _ _ 4 [.int .i64 4] from rfl) (Reps.none _ _))))); intro v213 w8 ho9 hb hg_ hnew_; clear hg_ hnew_; (first | rw [← Ny212.out] at ho9 | (simp only [Int.reduceToNat] at ho9; rw [← Ny212.out] at ho9)); have HO214 := Aside0.mk (Kd.R_lower (Kd.R_newM (M := fun k_ => (w.heap.size ≤ k_)) ho9 (sz9 HB) (fun k_ h_ => h_)) (sz9 HB)); replace HO210 := Aside0.mk (Kd.R_below (by (with_reducible repeat (first | apply Kd.R_alloc | apply Kd.R_drewN | apply Kd.R_drew)); exact (Kd.R_mono (Kd.R_far (p := ⟨gb211, 1, none⟩) (Kd.R_far (p := ⟨gb211, 0, none⟩) (Kd.R_types HO210.out BK211.out (by decide)) (fun _ hk => hk.2) (.int .i64 4)) (fun _ hk => hk.2) (.slice Ao4 y208.length co4)) (fun _ h_ => h_.1))) hb); replace BK207 := Aside0.mk (blk_below (g := gb207) (o := .cells #[.int .i64 0, .slice none 0 0, .slice none 0 0, .int .i64 0, .slice none 0 0] 29 (0, 0)) (by (with_reducible repeat (first | refine blk_drewN ?_ _ | refine blk_drew ?_ | refine blk_alloc ?_ _)); refine blk_far ?_ NB207_211.out _; (with_reducible repeat (first | refine blk_drewN ?_ _ | refine blk_drew ?_ | refine blk_alloc ?_ _)); refine blk_far ?_ NB207_211.out _; (with_reducible repeat (first | refine blk_drewN ?_ _ | refine blk_drew ?_ | refine blk_alloc ?_ _)); exact BK207.out) hb); replace BK211 := Aside0.mk (blk_below (g := gb211) (o := .cells #[.int .i64 4, .slice Ao4 y208.length co4] 24 (0, 0)) (by (with_reducible repeat (first | refine blk_drewN ?_ _ | refine blk_drew ?_ | refine blk_alloc ?_ _)); refine blk_put (cs := #[.int .i64 4, .slice none 0 0]) ?_ 1 _ rfl; (with_reducible repeat (first | refine blk_drewN ?_ _ | refine blk_drew ?_ | refine blk_alloc ?_ _)); refine blk_put (cs := #[.int .i64 0, .slice none 0 0]) ?_ 0 _ rfl; (with_reducible repeat (first | refine blk_drewN ?_ _ | refine blk_drew ?_ | refine blk_alloc ?_ _)); exact BK211.out) hb); replace HB := bs9 HB hb; clear hb ho9) | ((with_reducible refine gate_dst (N := 12) rfl ?_); refine Kd.R_lit (Kd.int .i64) _ 3 ?hg (N := 12) ?hd (xs := ([1, 8, 6] : List Int)) (inner := [.int .i64 1, .int .i64 8, .int .i64 6]) (ok := fun _ => True) (okp := fun _ => True) ?hr ?hp (fun _ hk => hk) trivial (Below.refl _ _) (Nat.le_refl _) (by simp) ?_; (case hd => rfl); (case hg => rfl); (case hr => first | (go_simp; done) | (go_simp; rfl)); (case hp => exact (Reps.one (show Kd.M (Kd.int .i64) _ _ _ 1 [.int .i64 1] from rfl) (Reps.one (show Kd.M (Kd.int .i64) _ _ _ 8 [.int .i64 8] from rfl) (Reps.one (show Kd.M (Kd.int .i64) _ _ _ 6 [.int .i64 6] from rfl) (Reps.none _ _))))); intro v216 w10 ho11 hb hg_ hnew_; clear hg_ hnew_; (first | rw [← Ny215.out] at ho11 | (simp only [Int.reduceToNat] at ho11; rw [← Ny215.out] at ho11)); have HO217 := Aside0.mk (Kd.R_lower (Kd.R_new' (Kd.R_newM (M := fun k_ => (w.heap.size ≤ k_)) ho11 (sz9 HB) (fun k_ h_ => h_)) (Kd.R_lt (ro9 HO214))) (sz9 HB)); replace HO210 := rb9 HO210 hb; replace HO214 := Aside0.mk (Kd.R_elder' (ro9 HO214) (Kd.R_base ho11) hb); replace BK207 := bb9 BK207 hb; replace BK211 := bb9 BK211 hb; replace HB := bs9 HB hb; clear hb ho11) | ((with_reducible refine gate_dst (N := 13) rfl ?_); refine Kd.R_lit (Kd.int .i64) _ 3 ?hg (N := 13) ?hd (xs := ([3, 7, 10] : List Int)) (inner := [.int .i64 3, .int .i64 7, .int .i64 10]) (ok := fun _ => True) (okp := fun _ => True) ?hr ?hp (fun _ hk => hk) trivial (Below.refl _ _) (Nat.le_refl _) (by simp) ?_; (case hd => rfl); (case hg => rfl); (case hr => first | (go_simp; done) | (go_simp; rfl)); (case hp => exact (Reps.one (show Kd.M (Kd.int .i64) _ _ _ 3 [.int .i64 3] from rfl) (Reps.one (show Kd.M (Kd.int .i64) _ _ _ 7 [.int .i64 7] from rfl) (Reps.one (show Kd.M (Kd.int .i64) _ _ _ 10 [.int .i64 10] from rfl) (Reps.none _ _))))); intro v219 w12 ho13 hb hg_ hnew_; clear hg_ hnew_; (first | rw [← Ny218.out] at ho13 | (simp only [Int.reduceToNat] at ho13; rw [← Ny218.out] at ho13)); have HO220 := Aside0.mk (Kd.R_lower (Kd.R_new' (Kd.R_new' (Kd.R_newM (M := fun k_ => (w.heap.size ≤ k_)) ho13 (sz9 HB) (fun k_ h_ => h_)) (Kd.R_lt (ro9 HO214))) (Kd.R_lt (ro9 HO217))) (sz9 HB)); replace HO210 := rb9 HO210 hb; replace HO214 := Aside0.mk (Kd.R_elder' (ro9 HO214) (Kd.R_base ho13) hb); replace HO217 := Aside0.mk (Kd.R_elder' (ro9 HO217) (Kd.R_base ho13) hb); replace BK207 := bb9 BK207 hb; replace BK211 := bb9 BK211 hb; replace HB := bs9 HB hb; clear hb ho13) | ((with_reducible refine gate_dst (N := 14) rfl ?_); refine Kd.R_lit (Kd.int .i64) _ 3 ?hg (N := 14) ?hd (xs := ([5, 11, 9] : List Int)) (inner := [.int .i64 5, .int .i64 11, .int .i64 9]) (ok := fun _ => True) (okp := fun _ => True) ?hr ?hp (fun _ hk => hk) trivial (Below.refl _ _) (Nat.le_refl _) (by simp) ?_; (case hd => rfl); (case hg => rfl); (case hr => first | (go_simp; done) | (go_simp; rfl)); (case hp => exact (Reps.one (show Kd.M (Kd.int .i64) _ _ _ 5 [.int .i64 5] from rfl) (Reps.one (show Kd.M (Kd.int .i64) _ _ _ 11 [.int .i64 11] from rfl) (Reps.one (show Kd.M (Kd.int .i64) _ _ _ 9 [.int .i64 9] from rfl) (Reps.none _ _))))); intro v222 w14 ho15 hb hg_ hnew_; clear hg_ hnew_; (first | rw [← Ny221.out] at ho15 | (simp only [Int.reduceToNat] at ho15; rw [← Ny221.out] at ho15)); have HO223 := Aside0.mk (Kd.R_lower (Kd.R_new' (Kd.R_new' (Kd.R_new' (Kd.R_newM (M := fun k_ => (w.heap.size ≤ k_)) ho15 (sz9 HB) (fun k_ h_ => h_)) (Kd.R_lt (ro9 HO214))) (Kd.R_lt (ro9 HO217))) (Kd.R_lt (ro9 HO220))) (sz9 HB)); replace HO210 := rb9 HO210 hb; replace HO214 := Aside0.mk (Kd.R_elder' (ro9 HO214) (Kd.R_base ho15) hb); replace HO217 := Aside0.mk (Kd.R_elder' (ro9 HO217) (Kd.R_base ho15) hb); replace HO220 := Aside0.mk (Kd.R_elder' (ro9 HO220) (Kd.R_base ho15) hb); replace BK207 := bb9 BK207 hb; replace BK211 := bb9 BK211 hb; replace HB := bs9 HB hb; clear hb ho15; obtain ⟨Ao16, co16, eo16⟩ := Kd.R_slice HO214.out; subst eo16; obtain ⟨Ao17, co17, eo17⟩ := Kd.R_slice HO217.out; subst eo17; obtain ⟨Ao18, co18, eo18⟩ := Kd.R_slice HO220.out; subst eo18; obtain ⟨Ao19, co19, eo19⟩ := Kd.R_slice HO223.out; subst eo19) | ((with_reducible refine gate_dst (N := 15) rfl ?_); refine Kd.N_lit (Kd.slice 3 (Kd.int .i64)) _ 27 ?hg (N' := 15) ?hd (xs := ([y212, y215, y218, y221] : List (List Int))) (inner := [.slice Ao16 y212.length co16, .slice Ao17 y215.length co17, .slice Ao18 y218.length co18, .slice Ao19 y221.length co19]) (ok := (fun k_ => (w.heap.size ≤ k_) ∧ some k_ ≠ (.slice Ao4 y208.length co4 : Value).ownBlock ∧ k_ ≠ gb207 ∧ k_ ≠ gb211)) (okp := (fun k_ => (w.heap.size ≤ k_) ∧ some k_ ≠ (.slice Ao4 y208.length co4 : Value).ownBlock ∧ k_ ≠ gb207 ∧ k_ ≠ gb211)) ?hr ?hp (fun _ hk => hk) ((show ∀ k_, w14.heap.size ≤ k_ → (fun k_ => (w.heap.size ≤ k_) ∧ some k_ ≠ (.slice Ao4 y208.length co4 : Value).ownBlock ∧ k_ ≠ gb207 ∧ k_ ≠ gb211) k_ from fun k_ hk => ⟨(Nat.le_trans (sz9 HB) hk), Kd.fresh' (Kd.R_lt (ro9 HO210)) k_ hk, Kd.freshB (g := gb207) (o := .cells #[.int .i64 0, .slice none 0 0, .slice none 0 0, .int .i64 0, .slice none 0 0] 29 (0, 0)) (by (with_reducible repeat (first | refine blk_drewN ?_ _ | refine blk_drew ?_ | refine blk_alloc ?_ _)); exact BK207.out) k_ hk, Kd.freshB (g := gb211) (o := .cells #[.int .i64 4, .slice Ao4 y208.length co4] 24 (0, 0)) (by (with_reducible repeat (first | refine blk_drewN ?_ _ | refine blk_drew ?_ | refine blk_alloc ?_ _)); exact BK211.out) k_ hk⟩) _ (Nat.le_refl _)) (Below.refl _ _) (Nat.le_refl _) (by simp) ?_; (case hd => rfl); (case hg => rfl); (case hr => first | (go_simp; done) | (go_simp; rfl)); (case hp => exact (Reps.one (show Kd.FK (Kd.slice 3 (Kd.int .i64)) _ _ y212 [.slice Ao16 y212.length co16] from (Kd.FK_slice_mk (Kd.R_reads' (Kd.R_mono (ok' := (fun k_ => (w.heap.size ≤ k_) ∧ some k_ ≠ (.slice Ao4 y208.length co4 : Value).ownBlock ∧ k_ ≠ gb207 ∧ k_ ≠ gb211)) (Kd.R_types (Kd.R_types (Kd.R_apart' (HO214.out) (Kd.R_typed HO210.out) (by decide)) BK207.out (by decide)) BK211.out (by decide)) (fun k_ hk => ⟨hk.1.1.1.1.1.1.1, ⟨hk.1.1.2, ⟨hk.1.2, hk.2⟩⟩⟩))).2.1 (Kd.R_F (Kd.R_mono (ok' := (fun k_ => (w.heap.size ≤ k_) ∧ some k_ ≠ (.slice Ao4 y208.length co4 : Value).ownBlock ∧ k_ ≠ gb207 ∧ k_ ≠ gb211)) (Kd.R_types (Kd.R_types (Kd.R_apart' (HO214.out) (Kd.R_typed HO210.out) (by decide)) BK207.out (by decide)) BK211.out (by decide)) (fun k_ hk => ⟨hk.1.1.1.1.1.1.1, ⟨hk.1.1.2, ⟨hk.1.2, hk.2⟩⟩⟩))))) (Reps.one (show Kd.FK (Kd.slice 3 (Kd.int .i64)) _ _ y215 [.slice Ao17 y215.length co17] from (Kd.FK_slice_mk (Kd.R_reads' (Kd.R_mono (ok' := (fun k_ => (w.heap.size ≤ k_) ∧ some k_ ≠ (.slice Ao4 y208.length co4 : Value).ownBlock ∧ k_ ≠ gb207 ∧ k_ ≠ gb211)) (Kd.R_types (Kd.R_types (Kd.R_apart' (HO217.out) (Kd.R_typed HO210.out) (by decide)) BK207.out (by decide)) BK211.out (by decide)) (fun k_ hk => ⟨hk.1.1.1.1.1.1.1, ⟨hk.1.1.2, ⟨hk.1.2, hk.2⟩⟩⟩))).2.1 (Kd.R_F (Kd.R_mono (ok' := (fun k_ => (w.heap.size ≤ k_) ∧ some k_ ≠ (.slice Ao4 y208.length co4 : Value).ownBlock ∧ k_ ≠ gb207 ∧ k_ ≠ gb211)) (Kd.R_types (Kd.R_types (Kd.R_apart' (HO217.out) (Kd.R_typed HO210.out) (by decide)) BK207.out (by decide)) BK211.out (by decide)) (fun k_ hk => ⟨hk.1.1.1.1.1.1.1, ⟨hk.1.1.2, ⟨hk.1.2, hk.2⟩⟩⟩))))) (Reps.one (show Kd.FK (Kd.slice 3 (Kd.int .i64)) _ _ y218 [.slice Ao18 y218.length co18] from (Kd.FK_slice_mk (Kd.R_reads' (Kd.R_mono (ok' := (fun k_ => (w.heap.size ≤ k_) ∧ some k_ ≠ (.slice Ao4 y208.length co4 : Value).ownBlock ∧ k_ ≠ gb207 ∧ k_ ≠ gb211)) (Kd.R_types (Kd.R_types (Kd.R_apart' (HO220.out) (Kd.R_typed HO210.out) (by decide)) BK207.out (by decide)) BK211.out (by decide)) (fun k_ hk => ⟨hk.1.1.1.1.1.1.1, ⟨hk.1.1.2, ⟨hk.1.2, hk.2⟩⟩⟩))).2.1 (Kd.R_F (Kd.R_mono (ok' := (fun k_ => (w.heap.size ≤ k_) ∧ some k_ ≠ (.slice Ao4 y208.length co4 : Value).ownBlock ∧ k_ ≠ gb207 ∧ k_ ≠ gb211)) (Kd.R_types (Kd.R_types (Kd.R_apart' (HO220.out) (Kd.R_typed HO210.out) (by decide)) BK207.out (by decide)) BK211.out (by decide)) (fun k_ hk => ⟨hk.1.1.1.1.1.1.1, ⟨hk.1.1.2, ⟨hk.1.2, hk.2⟩⟩⟩))))) (Reps.one (show Kd.FK (Kd.slice 3 (Kd.int .i64)) _ _ y221 [.slice Ao19 y221.length co19] from (Kd.FK_slice_mk (Kd.R_reads' (Kd.R_mono (ok' := (fun k_ => (w.heap.size ≤ k_) ∧ some k_ ≠ (.slice Ao4 y208.length co4 : Value).ownBlock ∧ k_ ≠ gb207 ∧ k_ ≠ gb211)) (Kd.R_types (Kd.R_types (Kd.R_apart' (HO223.out) (Kd.R_typed HO210.out) (by decide)) BK207.out (by decide)) BK211.out (by decide)) (fun k_ hk => ⟨hk.1.1.1.1.1.1.1, ⟨hk.1.1.2, ⟨hk.1.2, hk.2⟩⟩⟩))).2.1 (Kd.R_F (Kd.R_mono (ok' := (fun k_ => (w.heap.size ≤ k_) ∧ some k_ ≠ (.slice Ao4 y208.length co4 : Value).ownBlock ∧ k_ ≠ gb207 ∧ k_ ≠ gb211)) (Kd.R_types (Kd.R_types (Kd.R_apart' (HO223.out) (Kd.R_typed HO210.out) (by decide)) BK207.out (by decide)) BK211.out (by decide)) (fun k_ hk => ⟨hk.1.1.1.1.1.1.1, ⟨hk.1.1.2, ⟨hk.1.2, hk.2⟩⟩⟩))))) (Reps.none _ _)))))); intro v225 w20 ho21 hb hg_ hnew_; clear hg_ hnew_; (first | rw [← Ny224.out] at ho21 | (simp only [Int.reduceToNat] at ho21; rw [← Ny224.out] at ho21)); have HO226 := Aside0.mk (Kd.N_lower ho21 (sz9 HB)); replace HO210 := rb9 HO210 hb; replace BK207 := bb9 BK207 hb; replace BK211 := bb9 BK211 hb; replace HB := bs9 HB hb; clear HO223 HO220 HO217 HO214; clear hb ho21) | ((with_reducible refine gate_dst (N := 16) rfl ?_); refine Kd.R_lit (Kd.int .i64) _ 3 ?hg (N := 16) ?hd (xs := ([0, 1, 2, 3] : List Int)) (inner := [.int .i64 0, .int .i64 1, .int .i64 2, .int .i64 3]) (ok := fun _ => True) (okp := fun _ => True) ?hr ?hp (fun _ hk => hk) trivial (Below.refl _ _) (Nat.le_refl _) (by simp) ?_; (case hd => rfl); (case hg => rfl); (case hr => first | (go_simp; done) | (go_simp; rfl)); (case hp => exact (Reps.one (show Kd.M (Kd.int .i64) _ _ _ 0 [.int .i64 0] from rfl) (Reps.one (show Kd.M (Kd.int .i64) _ _ _ 1 [.int .i64 1] from rfl) (Reps.one (show Kd.M (Kd.int .i64) _ _ _ 2 [.int .i64 2] from rfl) (Reps.one (show Kd.M (Kd.int .i64) _ _ _ 3 [.int .i64 3] from rfl) (Reps.none _ _)))))); intro v228 w22 ho23 hb hg_ hnew_; clear hg_ hnew_; (first | rw [← Ny227.out] at ho23 | (simp only [Int.reduceToNat] at ho23; rw [← Ny227.out] at ho23)); have HO229 := Aside0.mk (Kd.R_lower (Kd.R_newM (M := fun k_ => (w.heap.size ≤ k_)) ho23 (sz9 HB) (fun k_ h_ => h_)) (sz9 HB)); replace HO210 := rb9 HO210 hb; replace HO226 := Aside0.mk (Kd.N_elder' (by (with_reducible repeat (first | apply Kd.N_alloc | apply Kd.N_drewN | apply Kd.N_drew)); exact HO226.out) (Kd.R_base ho23) hb); replace BK207 := bb9 BK207 hb; replace BK211 := bb9 BK211 hb; replace HB := bs9 HB hb; clear hb ho23; obtain ⟨Ao24, co24, eo24⟩ := Kd.R_slice HO229.out; subst eo24; obtain ⟨Ao25, co25, eo25⟩ := Kd.N_slice HO226.out; subst eo25; have hcz26_0 := cz9 BK207 0; have hcz26_1 := cz9 BK207 1; have hcz26_2 := cz9 BK207 2; have hcz26_3 := cz9 BK207 3; have hcz26_4 := cz9 BK207 4; have hfz26_0 := blk_frozen BK207.out 0; have hfz26_1 := blk_frozen BK207.out 1; have hfz26_2 := blk_frozen BK207.out 2; have hfz26_3 := blk_frozen BK207.out 3; have hfz26_4 := blk_frozen BK207.out 4))
 refine bodyPost_ret (results_cell_row rfl _ _ gb207 29 #[.int .i64 4, .slice Ao4 y208.length co4, .slice Ao25 y224.length co25, .int .i64 0, .slice Ao24 y227.length co24] (0, 0) _ rfl (by (with_reducible repeat (first | refine blk_drewN ?_ _ | refine blk_drew ?_ | refine blk_alloc ?_ _)); refine blk_put (cs := #[.int .i64 4, .slice Ao4 y208.length co4, .slice Ao25 y224.length co25, .int .i64 0, .slice none 0 0]) ?_ 4 _ rfl; (with_reducible repeat (first | refine blk_drewN ?_ _ | refine blk_drew ?_ | refine blk_alloc ?_ _)); refine blk_put (cs := #[.int .i64 4, .slice Ao4 y208.length co4, .slice Ao25 y224.length co25, .int .i64 0, .slice none 0 0]) ?_ 3 _ rfl; (with_reducible repeat (first | refine blk_drewN ?_ _ | refine blk_drew ?_ | refine blk_alloc ?_ _)); refine blk_put (cs := #[.int .i64 4, .slice Ao4 y208.length co4, .slice none 0 0, .int .i64 0, .slice none 0 0]) ?_ 2 _ rfl; (with_reducible repeat (first | refine blk_drewN ?_ _ | refine blk_drew ?_ | refine blk_alloc ?_ _)); refine blk_put (cs := #[.int .i64 4, .slice none 0 0, .slice none 0 0, .int .i64 0, .slice none 0 0]) ?_ 1 _ rfl; (with_reducible repeat (first | refine blk_drewN ?_ _ | refine blk_drew ?_ | refine blk_alloc ?_ _)); refine blk_put (cs := #[.int .i64 0, .slice none 0 0, .slice none 0 0, .int .i64 0, .slice none 0 0]) ?_ 0 _ rfl; (with_reducible repeat (first | refine blk_drewN ?_ _ | refine blk_drew ?_ | refine blk_alloc ?_ _)); exact BK207.out) Try.underlying29 rfl (by kernel_rfl)) rfl ?_
 exact ⟨_, _, _, er9, by (with_reducible repeat (first | apply Kd.R_alloc | apply Kd.R_drewN | apply Kd.R_drew)); exact Kd.R_mono (Kd.R_far (p := ⟨gb207, 4, none⟩) (Kd.R_far (p := ⟨gb207, 3, none⟩) (Kd.R_far (p := ⟨gb207, 2, none⟩) (Kd.R_far (p := ⟨gb207, 1, none⟩) (Kd.R_far (p := ⟨gb207, 0, none⟩) (Kd.R_types HO210.out BK207.out (by decide)) (fun _ hk => hk.2) (.int .i64 4)) (fun _ hk => hk.2) (.slice Ao4 y208.length co4)) (fun _ hk => hk.2) (.slice Ao25 y224.length co25)) (fun _ hk => hk.2) (.int .i64 0)) (fun _ hk => hk.2) (.slice Ao24 y227.length co24)) (fun _ hk => hk.1.1), by (with_reducible repeat (first | apply Kd.N_alloc | apply Kd.N_drewN | apply Kd.N_drew)); exact Kd.N_mono (Kd.N_far (p := ⟨gb207, 4, none⟩) (Kd.N_far (p := ⟨gb207, 3, none⟩) (Kd.N_far (p := ⟨gb207, 2, none⟩) (Kd.N_far (p := ⟨gb207, 1, none⟩) (Kd.N_far (p := ⟨gb207, 0, none⟩) (Kd.N_mono HO226.out (fun k_ hk => (⟨hk, hk.1.2.2.1⟩ : _ ∧ k_ ≠ gb207))) (fun _ hk => hk.2) (.int .i64 4)) (fun _ hk => hk.2) (.slice Ao4 y208.length co4)) (fun _ hk => hk.2) (.slice Ao25 y224.length co25)) (fun _ hk => hk.2) (.int .i64 0)) (fun _ hk => hk.2) (.slice Ao24 y227.length co24)) (fun _ hk => ⟨hk.1.1.1, ⟨hk.1.1.2.1, hk.1.2⟩⟩), by (with_reducible repeat (first | apply Kd.R_alloc | apply Kd.R_drewN | apply Kd.R_drew)); exact Kd.R_mono (Kd.R_far (p := ⟨gb207, 4, none⟩) (Kd.R_far (p := ⟨gb207, 3, none⟩) (Kd.R_far (p := ⟨gb207, 2, none⟩) (Kd.R_far (p := ⟨gb207, 1, none⟩) (Kd.R_far (p := ⟨gb207, 0, none⟩) (Kd.R_types HO229.out BK207.out (by decide)) (fun _ hk => hk.2) (.int .i64 4)) (fun _ hk => hk.2) (.slice Ao4 y208.length co4)) (fun _ hk => hk.2) (.slice Ao25 y224.length co25)) (fun _ hk => hk.2) (.int .i64 0)) (fun _ hk => hk.2) (.slice Ao24 y227.length co24)) (fun _ hk => hk.1.1), bl9 HB⟩
end GAll
namespace GAll
def tangramlaw24_Large.f (a0_0 : Int) (l0_1 : List (S41)) : Option (Bool) := some (decide (a0_0 > 600))
theorem tangramlaw24_Large.calls (a0_0 : Int) (A0_1 : Option Addr) (c0_1 : Nat) (l0_1 : List (S41)) (r : Bool) (w : World) (hr0_1 : Kd.C k41 w A0_1 l0_1.length l0_1) (hc0_1 : l0_1.length ≤ c0_1) (h : tangramlaw24_Large.f a0_0 l0_1 = some r) :
  Calls Try.prog 10 #[.agg #[.int .i64 a0_0, .slice A0_1 l0_1.length c0_1]] w fun e w' => e = .returned (.bool r) ∧ Below w.heap.size w w' := by
 have hu24 := Try.underlying24
 have HR0_1 := Aside0.mk hr0_1
 have HC0_1 := Aside0.mk hc0_1
 clear hr0_1 hc0_1
 have HB := Aside0.mk (Below.refl w.heap.size w)
 have H : (some (decide (a0_0 > 600))) = some r := h
 clear h
 obtain rfl := Option.some.inj H
 go_enter Try.func10, Try.ntmps10
 go_wp2_with (first | ((with_reducible refine gate_dst (N := 1) rfl ?_); refine box_event ?hg (N := 1) ?hd (cs := #[.int .i64 a0_0, .slice A0_1 l0_1.length c0_1]) (t := 24) ?hr ?_; (case hd => rfl); (case hg => rfl); (case hr => first | (go_simp; done) | (go_simp; rfl)); intro gb242 hg w2 hbox hb; have n0_ := Aside0.mk (below_step (by repeat (first | (with_reducible first | exact HB.out | apply below_alloc | apply pw_below_drewN | apply below_drew1) | exact HB.out)) hb); have n1_ := Aside0.mk (hbox); have n2_ := Aside0.mk ((by rw [hg]; exact (below_size (by repeat (first | (with_reducible first | exact HB.out | apply below_alloc | apply pw_below_drewN | apply below_drew1) | exact HB.out))) : w.heap.size ≤ gb242)); have n3_ := Aside0.mk ((by rw [hg]; exact (below_size (by repeat (first | (with_reducible first | exact HB.out | apply below_alloc | apply pw_below_drewN | apply below_drew1) | exact HB.out))) : w.heap.size ≤ gb242)); clear HB; have HB := n0_; have BK242 := n1_; have GW242 := n2_; have GE242 := n3_; clear n0_ n1_ n2_ n3_; clear hb hbox hg; have hcz3_0 : w2.cell? ⟨gb242, 0, none⟩ = some (.int .i64 a0_0) := (blk_cell BK242.out 0).trans rfl; have hcz3_1 : w2.cell? ⟨gb242, 1, none⟩ = some (.slice A0_1 l0_1.length c0_1) := (blk_cell BK242.out 1).trans rfl; have hfz3_0 := blk_frozen BK242.out 0; have hfz3_1 := blk_frozen BK242.out 1))
 go_ret
 exact ⟨by first | rfl | (simp [errW_none, errW_some] <;> rfl) | (simp [*, errW_none, errW_some] <;> rfl), by repeat (first | (with_reducible first | exact HB.out | apply below_alloc | apply pw_below_drewN | apply below_drew1 | refine below_set ?_ GE242.out) | exact HB.out)⟩
end GAll
namespace GAll
def tangramref04_From.f (a0_0 : Int) (l0_1 : List (S41)) (a1 : Int) : Option (Int) := if (Int.tmod a1 2) = 0 then (if 0 ≤ (wrap64 (Int.tdiv a1 2)) then (if (wrap64 (Int.tdiv a1 2)) < (l0_1.length : Int) then (some ((rd_T41 l0_1 (wrap64 (Int.tdiv a1 2))).f0)) else (none)) else (none)) else (if 0 ≤ (wrap64 (Int.tdiv a1 2)) then (if (wrap64 (Int.tdiv a1 2)) < (l0_1.length : Int) then (some ((rd_T41 l0_1 (wrap64 (Int.tdiv a1 2))).f1)) else (none)) else (none))
theorem tangramref04_From.calls (a0_0 : Int) (A0_1 : Option Addr) (c0_1 : Nat) (l0_1 : List (S41)) (a1 : Int) (r : Int) (w : World) (hr0_1 : Kd.C k41 w A0_1 l0_1.length l0_1) (hc0_1 : l0_1.length ≤ c0_1) (h : tangramref04_From.f a0_0 l0_1 a1 = some r) :
  Calls Try.prog 51 #[.agg #[.int .i64 a0_0, .slice A0_1 l0_1.length c0_1], .int .i64 a1] w fun e w' => e = .returned (.int .i64 r) ∧ Below w.heap.size w w' := by
 have hu24 := Try.underlying24
 have HR0_1 := Aside0.mk hr0_1
 have HC0_1 := Aside0.mk hc0_1
 clear hr0_1 hc0_1
 have HB := Aside0.mk (Below.refl w.heap.size w)
 have H : (if (Int.tmod a1 2) = 0 then (if 0 ≤ (wrap64 (Int.tdiv a1 2)) then (if (wrap64 (Int.tdiv a1 2)) < (l0_1.length : Int) then (some ((rd_T41 l0_1 (wrap64 (Int.tdiv a1 2))).f0)) else (none)) else (none)) else (if 0 ≤ (wrap64 (Int.tdiv a1 2)) then (if (wrap64 (Int.tdiv a1 2)) < (l0_1.length : Int) then (some ((rd_T41 l0_1 (wrap64 (Int.tdiv a1 2))).f1)) else (none)) else (none))) = some r := h
 clear h
 by_cases c3 : (Int.tmod a1 2) = 0
 ·rw [if_pos c3] at H
  have c3b0 : ((Int.tmod a1 2) == 0) = true := beq_iff_eq.mpr c3
  have c3b1 : ((Int.tmod a1 2) != 0) = false := bne_eq_false_iff_eq.mpr c3
  clear c3
  obtain ⟨ji4, hji4⟩ : ∃ j_ : Int, (wrap64 (Int.tdiv a1 2)) = j_ := ⟨_, rfl⟩
  replace H : (if 0 ≤ (ji4) then (if (ji4) < (l0_1.length : Int) then (some ((rd_T41 l0_1 (ji4)).f0)) else (none)) else (none)) = some r := by first | (rw [hji4] at H; exact H) | (simp only [hji4] at H ⊢; exact H)
  have hji4w : (IntKind.i64.wrap (Int.tdiv a1 2)) = ji4 := (i64_w _).trans hji4
  by_cases c5 : 0 ≤ (ji4)
  ·rw [if_pos c5] at H
   have c5b0 : decide (0 ≤ (ji4)) = true := decide_eq_true c5
   clear c5
   by_cases c6 : (ji4) < (l0_1.length : Int)
   ·rw [if_pos c6] at H
    have c6b0 : decide ((ji4) < (l0_1.length : Int)) = true := decide_eq_true c6
    clear c6
    obtain rfl := Option.some.inj H
    go_enter Try.func51, Try.ntmps51
    go_wp2_with (first | ((with_reducible refine gate_dst (N := 2) rfl ?_); refine bx9 (N := 2) (cs := #[.int .i64 a0_0, .slice A0_1 l0_1.length c0_1]) (t := 24) ?_; intro gb264 hg w7 hbox hb; have BK264 := Aside0.mk (hbox); have GW264 := gw9 HB hg; have GE264 := gw9 HB hg; replace HB := bs9 HB hb; clear hb hbox hg; have hcz8_0 := cz9 BK264 0; have hcz8_1 := cz9 BK264 1; have hfz8_0 := blk_frozen BK264.out 0; have hfz8_1 := blk_frozen BK264.out 1; have p265 : 0 ≤ ((ji4) : Int) := od9; have q265 : (ji4) < (l0_1.length : Int) := od9; obtain ⟨ad265, e265, hx265_0, hx265_1⟩ := at_T41 HR0_1.out (ji4) p265 q265; cases e265; replace hx265_0 := (HB.out.cell (World.block_lt_of_cell? w _ hx265_0)).trans hx265_0; replace hx265_1 := (HB.out.cell (World.block_lt_of_cell? w _ hx265_1)).trans hx265_1; replace p265 := eq_true p265; replace q265 := eq_true q265))
    go_ret
    exact ⟨by first | rfl | (simp [errW_none, errW_some] <;> rfl) | (simp only [← hji4]; first | rfl | (simp [errW_none, errW_some] <;> rfl)) | (simp [*, errW_none, errW_some] <;> rfl), bl9 HB⟩
   ·rw [if_neg c6] at H
    exact absurd H (by simp)
  ·rw [if_neg c5] at H
   exact absurd H (by simp)
 ·rw [if_neg c3] at H
  have c3b0 : ((Int.tmod a1 2) == 0) = false := beq_eq_false_iff_ne.mpr c3
  have c3b1 : ((Int.tmod a1 2) != 0) = true := bne_iff_ne.mpr c3
  obtain ⟨ji9, hji9⟩ : ∃ j_ : Int, (wrap64 (Int.tdiv a1 2)) = j_ := ⟨_, rfl⟩
  replace H : (if 0 ≤ (ji9) then (if (ji9) < (l0_1.length : Int) then (some ((rd_T41 l0_1 (ji9)).f1)) else (none)) else (none)) = some r := by first | (rw [hji9] at H; exact H) | (simp only [hji9] at H ⊢; exact H)
  have hji9w : (IntKind.i64.wrap (Int.tdiv a1 2)) = ji9 := (i64_w _).trans hji9
  by_cases c10 : 0 ≤ (ji9)
  ·rw [if_pos c10] at H
   have c10b0 : decide (0 ≤ (ji9)) = true := decide_eq_true c10
   clear c10
   by_cases c11 : (ji9) < (l0_1.length : Int)
   ·rw [if_pos c11] at H
    have c11b0 : decide ((ji9) < (l0_1.length : Int)) = true := decide_eq_true c11
    clear c11
    obtain rfl := Option.some.inj H
    go_enter Try.func51, Try.ntmps51
    go_wp2_with (first | ((with_reducible refine gate_dst (N := 2) rfl ?_); refine bx9 (N := 2) (cs := #[.int .i64 a0_0, .slice A0_1 l0_1.length c0_1]) (t := 24) ?_; intro gb264 hg w12 hbox hb; have BK264 := Aside0.mk (hbox); have GW264 := gw9 HB hg; have GE264 := gw9 HB hg; replace HB := bs9 HB hb; clear hb hbox hg; have hcz13_0 := cz9 BK264 0; have hcz13_1 := cz9 BK264 1; have hfz13_0 := blk_frozen BK264.out 0; have hfz13_1 := blk_frozen BK264.out 1; have p266 : 0 ≤ ((ji9) : Int) := od9; have q266 : (ji9) < (l0_1.length : Int) := od9; obtain ⟨ad266, e266, hx266_0, hx266_1⟩ := at_T41 HR0_1.out (ji9) p266 q266; cases e266; replace hx266_0 := (HB.out.cell (World.block_lt_of_cell? w _ hx266_0)).trans hx266_0; replace hx266_1 := (HB.out.cell (World.block_lt_of_cell? w _ hx266_1)).trans hx266_1; replace p266 := eq_true p266; replace q266 := eq_true q266))
    go_ret
    exact ⟨by first | rfl | (simp [errW_none, errW_some] <;> rfl) | (simp only [← hji9]; first | rfl | (simp [errW_none, errW_some] <;> rfl)) | (simp [*, errW_none, errW_some] <;> rfl), bl9 HB⟩
   ·rw [if_neg c11] at H
    exact absurd H (by simp)
  ·rw [if_neg c10] at H
   exact absurd H (by simp)
end GAll
namespace GAll
def tangramref04_To.f (a0_0 : Int) (l0_1 : List (S41)) (a1 : Int) : Option (Int) := (tangramref04_From.f a0_0 l0_1 (Go.bits .xor .i64 a1 1)).bind fun t351 => (some t351)
theorem tangramref04_To.calls (a0_0 : Int) (A0_1 : Option Addr) (c0_1 : Nat) (l0_1 : List (S41)) (a1 : Int) (r : Int) (w : World) (hr0_1 : Kd.C k41 w A0_1 l0_1.length l0_1) (hc0_1 : l0_1.length ≤ c0_1) (h : tangramref04_To.f a0_0 l0_1 a1 = some r) :
  Calls Try.prog 42 #[.agg #[.int .i64 a0_0, .slice A0_1 l0_1.length c0_1], .int .i64 a1] w fun e w' => e = .returned (.int .i64 r) ∧ Below w.heap.size w w' := by
 have hu24 := Try.underlying24
 have HR0_1 := Aside0.mk hr0_1
 have HC0_1 := Aside0.mk hc0_1
 clear hr0_1 hc0_1
 have HB := Aside0.mk (Below.refl w.heap.size w)
 have H : ((tangramref04_From.f a0_0 l0_1 (Go.bits .xor .i64 a1 1)).bind fun t351 => (some t351)) = some r := h
 clear h
 replace H := Option.bind_eq_some_iff.mp H
 obtain ⟨t351, A30, H⟩ := H
 replace H : (some t351) = some r := H
 have A3 := Aside0.mk A30
 clear A30
 obtain rfl := Option.some.inj H
 go_enter Try.func42, Try.ntmps42
 go_wp2_with (first | ((with_reducible refine gate_dst (N := 2) rfl ?_); refine box_event ?hg (N := 2) ?hd (cs := #[.int .i64 a0_0, .slice A0_1 l0_1.length c0_1]) (t := 24) ?hr ?_; (case hd => rfl); (case hg => rfl); (case hr => first | (go_simp; done) | (go_simp; rfl)); intro gb350 hg w4 hbox hb; have n0_ := Aside0.mk (below_step (by repeat (first | (with_reducible first | exact HB.out | apply below_alloc | apply pw_below_drewN | apply below_drew1) | exact HB.out)) hb); have n1_ := Aside0.mk (hbox); have n2_ := Aside0.mk ((by rw [hg]; exact (below_size (by repeat (first | (with_reducible first | exact HB.out | apply below_alloc | apply pw_below_drewN | apply below_drew1) | exact HB.out))) : w.heap.size ≤ gb350)); have n3_ := Aside0.mk ((by rw [hg]; exact (below_size (by repeat (first | (with_reducible first | exact HB.out | apply below_alloc | apply pw_below_drewN | apply below_drew1) | exact HB.out))) : w.heap.size ≤ gb350)); clear HB; have HB := n0_; have BK350 := n1_; have GW350 := n2_; have GE350 := n3_; clear n0_ n1_ n2_ n3_; clear hb hbox hg; have hcz5_0 : w4.cell? ⟨gb350, 0, none⟩ = some (.int .i64 a0_0) := (blk_cell BK350.out 0).trans rfl; have hcz5_1 : w4.cell? ⟨gb350, 1, none⟩ = some (.slice A0_1 l0_1.length c0_1) := (blk_cell BK350.out 1).trans rfl; have hfz5_0 := blk_frozen BK350.out 0; have hfz5_1 := blk_frozen BK350.out 1) | ((with_reducible refine gate_callee (f := 51) rfl ?_); refine goesL_ (some 8) rfl rfl Try.func51 (by kernel_rfl) rfl #[.agg #[.int .i64 a0_0, .slice A0_1 l0_1.length c0_1], .int .i64 (Go.bits .xor .i64 a1 1)] rfl (by (try simp only [List.map_toArray, List.map_cons, List.map_nil]); first | done | rfl | (simp only [List.length_drop, List.length_take]; rfl)) ?_; (with_reducible refine (tangramref04_From.calls a0_0 _ _ l0_1 (Go.bits .xor .i64 a1 1) t351 _ ?side1 ?side2 A3.out).mono ?_); (case side1 => repeat (first | exact (Kd.C_below HR0_1.out HB.out) | (with_reducible refine Kd.C_alloc ?_ _) | (with_reducible refine Kd.C_drewN ?_ _) | (with_reducible refine Kd.C_drew ?_))); (case side2 => exact HC0_1.out); rintro e w6 ⟨rfl, hb⟩; refine ⟨_, rfl, ?_⟩; have n0_ := Aside0.mk (blk_below (g := gb350) (o := .cells #[.int .i64 a0_0, .slice A0_1 l0_1.length c0_1] 24 (0, 0)) (by (with_reducible repeat (first | refine blk_drewN ?_ _ | refine blk_drew ?_ | refine blk_alloc ?_ _)); exact BK350.out) hb); have n1_ := Aside0.mk (below_step (by repeat (first | (with_reducible first | exact HB.out | apply below_alloc | apply pw_below_drewN | apply below_drew1 | refine below_set ?_ GE350.out) | exact HB.out)) hb); clear BK350; clear HB; have BK350 := n0_; have HB := n1_; clear n0_ n1_; (try clear hb); (try clear hb2); (try clear hk); (try clear hi)))
 go_ret
 exact ⟨by first | rfl | (simp [errW_none, errW_some] <;> rfl) | (simp [*, errW_none, errW_some] <;> rfl), by repeat (first | (with_reducible first | exact HB.out | apply below_alloc | apply pw_below_drewN | apply below_drew1 | refine below_set ?_ GE350.out) | exact HB.out)⟩
end GAll
namespace GAll
def tangramref24_all.l0 : Nat → Int → List Int → List Bool → Int → Option (Bool)
 | 0, _, _, _, _ => none
 | k + 1, x0, x1, x5, x6 => if x6 < x0 then (if 0 ≤ x6 then (if x6 < (x1.length : Int) then (if (rd x1 x6) < 0 then (some false) else (if (rd x1 x6) ≥ x0 then (some false) else (if 0 ≤ (rd x1 x6) then (if (rd x1 x6) < (x5.length : Int) then (if rdOf false x5 (rd x1 x6) = true then (some false) else (tangramref24_all.l0 k x0 x1 (x5.set ((rd x1 x6) : Int).toNat true) (wrap64 (x6 + 1)))) else (none)) else (none)))) else (none)) else (none)) else (some true)
def tangramref24_all.f (k : Nat) (a0 : Int) (l1 : List Int) : Option (Bool) := if (l1.length : Int) = a0 then (if 0 ≤ a0 then (if (a0 : Int).toNat ≤ 281474976710656 then (tangramref24_all.l0 k a0 l1 (List.replicate (a0 : Int).toNat false) 0) else (none)) else (none)) else (some false)
theorem tangramref24_all.mono_l : ∀ k, (∀ y0 y1 y2 y3, LeO (tangramref24_all.l0 k y0 y1 y2 y3) (tangramref24_all.l0 (k + 1) y0 y1 y2 y3))
 | 0 => fun _ _ _ _ r h => by simp [tangramref24_all.l0] at h
 | k + 1 => by
  have ih0 := tangramref24_all.mono_l k
  ·intro y0 y1 y2 y3
   unfold tangramref24_all.l0
   repeat' first
   | (with_reducible exact ih0 _ _ _ _)
   | (with_reducible exact LeO.refl _)
   | (with_reducible exact LeO.none _)
   | (with_reducible refine LeO.ite ?_ ?_)
   | (with_reducible refine LeO.bind ?_ (fun _ => ?_))
theorem tangramref24_all.mono : ∀ a0 a1 k, LeO (tangramref24_all.f k a0 a1) (tangramref24_all.f (k + 1) a0 a1) := by
 intro a0 a1 k
 have ih0 := tangramref24_all.mono_l k
 unfold tangramref24_all.f
 repeat' first
   | (with_reducible exact ih0 _ _ _ _)
   | (with_reducible exact LeO.refl _)
   | (with_reducible exact LeO.none _)
   | (with_reducible refine LeO.ite ?_ ?_)
   | (with_reducible refine LeO.bind ?_ (fun _ => ?_))
theorem tangramref24_all.calls (k : Nat) (a0 : Int) (A1 : Option Addr) (c1 : Nat) (l1 : List Int) (r : Bool) (w : World) (hr1 : Kd.C (Kd.int .i64) w A1 l1.length l1) (hc1 : l1.length ≤ c1) (h : tangramref24_all.f k a0 l1 = some r) :
  Calls Try.prog 40 #[.int .i64 a0, .slice A1 l1.length c1] w fun e w' => e = .returned (.bool r) ∧ Below w.heap.size w w' := by
 have HR1 := Aside0.mk hr1
 have HC1 := Aside0.mk hc1
 clear hr1 hc1
 have HB := Aside0.mk (Below.refl w.heap.size w)
 have H : (if (l1.length : Int) = a0 then (if 0 ≤ a0 then (if (a0 : Int).toNat ≤ 281474976710656 then (tangramref24_all.l0 k a0 l1 (List.replicate (a0 : Int).toNat false) 0) else (none)) else (none)) else (some false)) = some r := h
 clear h
 by_cases c3 : (l1.length : Int) = a0
 ·rw [if_pos c3] at H
  have c3b0 : ((l1.length : Int) == a0) = true := beq_iff_eq.mpr c3
  have c3b1 : ((l1.length : Int) != a0) = false := bne_eq_false_iff_eq.mpr c3
  clear c3
  by_cases c4 : 0 ≤ a0
  ·rw [if_pos c4] at H
   have c4b0 := eq_true c4
   have c4b1 : decide (0 ≤ a0) = true := decide_eq_true c4
   clear c4
   by_cases c5 : (a0 : Int).toNat ≤ 281474976710656
   ·rw [if_pos c5] at H
    have c5b0 := eq_true c5
    have c5b1 : decide ((a0 : Int).toNat ≤ 281474976710656) = true := decide_eq_true c5
    clear c5
    obtain ⟨y360, hy360⟩ : ∃ y_ : List Bool, y_ = (List.replicate (a0 : Int).toNat false) := ⟨_, rfl⟩
    replace H : (tangramref24_all.l0 k a0 l1 y360 0) = some r := by first | (rw [hy360]; exact H) | exact H
    have Ny360 := Aside0.mk hy360
    clear hy360
    have H' := Aside0.mk H
    clear H
    go_enter Try.func40, Try.ntmps40
    go_wp2_with (first | ((with_reducible refine gate_dst (N := 12) rfl ?_); refine Kd.R_make Kd.bool _ 4 rfl (N := 12) rfl 36 _ _ rfl a0 rfl rfl Try.underlying36 (.bool false) 1 info4 rfl (by decide) (by omega) false (ok := fun _ => True) (okp := fun _ => True) rfl (fun _ hk => hk) trivial od9 (Nat.le_trans (Nat.mul_le_mul_right _ (od9 : a0.toNat ≤ 281474976710656)) (by omega)) (Below.refl _ _) (Nat.le_refl _) ?_; intro v361 w6 ho7 hb hg_ hnew_; clear hg_ hnew_; (first | rw [← Ny360.out] at ho7 | (simp only [Int.reduceToNat] at ho7; rw [← Ny360.out] at ho7)); have HO362 := Aside0.mk (Kd.R_lower ho7 (sz9 HB)); replace HB := bs9 HB hb; clear hb ho7))
    go_loopg [6] k (fun kq v6 w' => ∃ (x5_1 : List Bool) (x6_1 : Int), v6 = .int .i64 x6_1 ∧ Aside0 (tangramref24_all.l0 kq a0 l1 x5_1 x6_1 = some r) ∧ Aside0 (kq ≤ k) ∧ Aside0 (Kd.R Kd.bool 4 w' w.heap.size (fun _ => True) v361 x5_1) ∧ Aside0 (Below w.heap.size w w'))
    case atStart => exact ⟨(y360), (0), an9, H', ⟨Nat.le_refl _⟩, ⟨ro9 HO362⟩, ⟨bl9 HB⟩⟩
    case round =>
     clear H'
     try clear c1
     try clear p2
     try clear c3
     try clear c3b0
     try clear c3b1
     try clear c4
     try clear c4b0
     try clear c4b1
     try clear c5
     try clear c5b0
     try clear c5b1
     obtain ⟨x5_1, x6_1, rfl, HA, HK1, HO_5, HB⟩ := hrel
     cases gk with
     | zero => exact absurd HA.out (by simp [tangramref24_all.l0])
     | succ k1 =>
      have H := HA.out
      clear HA
      simp only [tangramref24_all.l0] at H
      by_cases c8 : x6_1 < a0
      ·rw [if_pos c8] at H
       have c8b0 : decide (x6_1 < a0) = true := decide_eq_true c8
       clear c8
       by_cases c9 : 0 ≤ x6_1
       ·rw [if_pos c9] at H
        have c9b0 : decide (0 ≤ x6_1) = true := decide_eq_true c9
        clear c9
        by_cases c10 : x6_1 < (l1.length : Int)
        ·rw [if_pos c10] at H
         have c10b0 : decide (x6_1 < (l1.length : Int)) = true := decide_eq_true c10
         clear c10
         by_cases c11 : (rd l1 x6_1) < 0
         ·rw [if_pos c11] at H
          have c11b0 : decide ((rd l1 x6_1) < 0) = true := decide_eq_true c11
          clear c11
          obtain rfl := Option.some.inj H
          have p363 : 0 ≤ (x6_1 : Int) := od9
          have q363 : x6_1 < (l1.length : Int) := od9
          obtain ⟨ad363, e363, hx363_0⟩ := Kd.at_int HR1.out x6_1 p363 q363
          cases e363
          replace hx363_0 := (HB.out.cell (World.block_lt_of_cell? w _ hx363_0)).trans hx363_0
          replace p363 := eq_true p363
          replace q363 := eq_true q363
          go_wp2
          go_ret
          exact ⟨er9, bl9 HB⟩
         ·rw [if_neg c11] at H
          have c11b0 : decide ((rd l1 x6_1) < 0) = false := decide_eq_false c11
          clear c11
          by_cases c12 : (rd l1 x6_1) ≥ a0
          ·rw [if_pos c12] at H
           have c12b0 : decide (a0 ≤ (rd l1 x6_1)) = true := decide_eq_true c12
           clear c12
           obtain rfl := Option.some.inj H
           have p363 : 0 ≤ (x6_1 : Int) := od9
           have q363 : x6_1 < (l1.length : Int) := od9
           obtain ⟨ad363, e363, hx363_0⟩ := Kd.at_int HR1.out x6_1 p363 q363
           cases e363
           replace hx363_0 := (HB.out.cell (World.block_lt_of_cell? w _ hx363_0)).trans hx363_0
           replace p363 := eq_true p363
           replace q363 := eq_true q363
           have p364 : 0 ≤ (x6_1 : Int) := od9
           have q364 : x6_1 < (l1.length : Int) := od9
           obtain ⟨ad364, e364, hx364_0⟩ := Kd.at_int HR1.out x6_1 p364 q364
           obtain rfl : ad363 = ad364 := (by injection e364)
           replace hx364_0 := (HB.out.cell (World.block_lt_of_cell? w _ hx364_0)).trans hx364_0
           replace p364 := eq_true p364
           replace q364 := eq_true q364
           go_wp2
           go_ret
           exact ⟨er9, bl9 HB⟩
          ·rw [if_neg c12] at H
           have c12b0 : decide (a0 ≤ (rd l1 x6_1)) = false := decide_eq_false c12
           clear c12
           by_cases c13 : 0 ≤ (rd l1 x6_1)
           ·rw [if_pos c13] at H
            have c13b0 : decide (0 ≤ (rd l1 x6_1)) = true := decide_eq_true c13
            clear c13
            by_cases c14 : (rd l1 x6_1) < (x5_1.length : Int)
            ·rw [if_pos c14] at H
             have c14b0 : decide ((rd l1 x6_1) < (x5_1.length : Int)) = true := decide_eq_true c14
             clear c14
             obtain ⟨bq15, hbq15⟩ : ∃ b_ : Bool, b_ = (rdOf false x5_1 (rd l1 x6_1)) := ⟨_, rfl⟩
             replace H : (if bq15 = true then (some false) else (tangramref24_all.l0 k1 a0 l1 (x5_1.set ((rd l1 x6_1) : Int).toNat true) (wrap64 (x6_1 + 1)))) = some r := by rw [← hbq15] at H; exact H
             have Nbq15 := Aside0.mk hbq15
             clear hbq15
             by_cases c16 : bq15 = true
             ·subst c16
              rw [if_pos rfl] at H
              obtain rfl := Option.some.inj H
              have p363 : 0 ≤ (x6_1 : Int) := od9
              have q363 : x6_1 < (l1.length : Int) := od9
              obtain ⟨ad363, e363, hx363_0⟩ := Kd.at_int HR1.out x6_1 p363 q363
              cases e363
              replace hx363_0 := (HB.out.cell (World.block_lt_of_cell? w _ hx363_0)).trans hx363_0
              replace p363 := eq_true p363
              replace q363 := eq_true q363
              have p364 : 0 ≤ (x6_1 : Int) := od9
              have q364 : x6_1 < (l1.length : Int) := od9
              obtain ⟨ad364, e364, hx364_0⟩ := Kd.at_int HR1.out x6_1 p364 q364
              obtain rfl : ad363 = ad364 := (by injection e364)
              replace hx364_0 := (HB.out.cell (World.block_lt_of_cell? w _ hx364_0)).trans hx364_0
              replace p364 := eq_true p364
              replace q364 := eq_true q364
              have p365 : 0 ≤ (x6_1 : Int) := od9
              have q365 : x6_1 < (l1.length : Int) := od9
              obtain ⟨ad365, e365, hx365_0⟩ := Kd.at_int HR1.out x6_1 p365 q365
              obtain rfl : ad363 = ad365 := (by injection e365)
              replace hx365_0 := (HB.out.cell (World.block_lt_of_cell? w _ hx365_0)).trans hx365_0
              replace p365 := eq_true p365
              replace q365 := eq_true q365
              obtain ⟨Ao17, co17, eo17⟩ := Kd.R_slice HO_5.out
              subst eo17
              have p366 : 0 ≤ ((rd l1 x6_1) : Int) := od9
              have q366 : (rd l1 x6_1) < (x5_1.length : Int) := od9
              obtain ⟨ad366, e366, hx366_0⟩ := Kd.at_bool (Kd.R_reads' HO_5.out).2.2 (rd l1 x6_1) p366 q366
              (try rw [← Nbq15.out] at hx366_0)
              cases e366
              replace p366 := eq_true p366
              replace q366 := eq_true q366
              go_wp2
              go_ret
              exact ⟨er9, bl9 HB⟩
             ·replace c16 := Bool.eq_false_iff.mpr c16
              subst c16
              rw [if_neg (show ¬ (false = true) by decide)] at H
              obtain ⟨y368, hy368⟩ : ∃ y_ : List Bool, y_ = (x5_1.set ((rd l1 x6_1) : Int).toNat true) := ⟨_, rfl⟩
              replace H : (tangramref24_all.l0 k1 a0 l1 y368 (wrap64 (x6_1 + 1))) = some r := by first | (rw [hy368]; exact H) | exact H
              have Ny368 := Aside0.mk hy368
              clear hy368
              have H' := Aside0.mk H
              clear H
              have p363 : 0 ≤ (x6_1 : Int) := od9
              have q363 : x6_1 < (l1.length : Int) := od9
              obtain ⟨ad363, e363, hx363_0⟩ := Kd.at_int HR1.out x6_1 p363 q363
              cases e363
              replace hx363_0 := (HB.out.cell (World.block_lt_of_cell? w _ hx363_0)).trans hx363_0
              replace p363 := eq_true p363
              replace q363 := eq_true q363
              have p364 : 0 ≤ (x6_1 : Int) := od9
              have q364 : x6_1 < (l1.length : Int) := od9
              obtain ⟨ad364, e364, hx364_0⟩ := Kd.at_int HR1.out x6_1 p364 q364
              obtain rfl : ad363 = ad364 := (by injection e364)
              replace hx364_0 := (HB.out.cell (World.block_lt_of_cell? w _ hx364_0)).trans hx364_0
              replace p364 := eq_true p364
              replace q364 := eq_true q364
              have p365 : 0 ≤ (x6_1 : Int) := od9
              have q365 : x6_1 < (l1.length : Int) := od9
              obtain ⟨ad365, e365, hx365_0⟩ := Kd.at_int HR1.out x6_1 p365 q365
              obtain rfl : ad363 = ad365 := (by injection e365)
              replace hx365_0 := (HB.out.cell (World.block_lt_of_cell? w _ hx365_0)).trans hx365_0
              replace p365 := eq_true p365
              replace q365 := eq_true q365
              obtain ⟨Ao19, co19, eo19⟩ := Kd.R_slice HO_5.out
              subst eo19
              have p366 : 0 ≤ ((rd l1 x6_1) : Int) := od9
              have q366 : (rd l1 x6_1) < (x5_1.length : Int) := od9
              obtain ⟨ad366, e366, hx366_0⟩ := Kd.at_bool (Kd.R_reads' HO_5.out).2.2 (rd l1 x6_1) p366 q366
              (try rw [← Nbq15.out] at hx366_0)
              cases e366
              replace p366 := eq_true p366
              replace q366 := eq_true q366
              have p367 : 0 ≤ (x6_1 : Int) := od9
              have q367 : x6_1 < (l1.length : Int) := od9
              obtain ⟨ad367, e367, hx367_0⟩ := Kd.at_int HR1.out x6_1 p367 q367
              obtain rfl : ad363 = ad367 := (by injection e367)
              replace hx367_0 := (HB.out.cell (World.block_lt_of_cell? w _ hx367_0)).trans hx367_0
              replace p367 := eq_true p367
              replace q367 := eq_true q367
              have p18 : 0 ≤ ((rd l1 x6_1) : Int) := od9
              have q18 : ((rd l1 x6_1) : Int) < ((x5_1.length : Int) : Int) := od9
              obtain ⟨go18, co18, eo18, gb18, gl18, cl18, HG18⟩ := Kd.R_form HO_5.out (by omega)
              (first | cases eo18 | (injection eo18 with ea_ en_ ec_; (first | subst ea_ | (injection ea_ with ea_; subst ea_)); subst ec_; clear en_))
              have GB18 := Aside0.mk gb18
              have GG18 := Aside0.mk HG18
              clear gb18 gl18 HG18
              (first | simp only [add_plain] at hx366_0 | skip)
              obtain ⟨hx18_0, hf18_0⟩ := Kd.R_celln false HO_5.out ((rd l1 x6_1) : Int) p18 q18
              replace p18 := eq_true p18
              replace q18 := eq_true q18
              have HP20 := Kd.R_putg HO_5.out ((rd l1 x6_1) : Int) true
              go_wp2_with (first | ((with_reducible refine gate_store (t := 4) (p := 45) rfl ?_); refine store_event (t := 4) (p := 45) (v := ?vo_w21) (w1 := (wr.setCell ⟨go18, ((rd l1 x6_1) : Int).toNat, none⟩ (.bool true))) ?hg ?ho ?hn ?hr ?_; (case ho => rfl); (case hg => rfl); (case hn => rfl); (case hr => first | (go_simp; done) | (go_simp; rfl)); intro w21 hw; have hg : wr.grownBy w21 (some go18) := (by rw [hw]; exact HP20.2); have hp_ : Kd.R Kd.bool 4 w21 w.heap.size (fun _ => True) (.slice (some ⟨go18, 0, none⟩) x5_1.length co19) y368 := (by rw [hw, Ny368.out]; exact HP20.1); clear HP20; replace HO_5 := Aside0.mk (hp_); replace HB := Aside0.mk ((by rw [hw]; exact below_set (HB.out) GB18.out : Below w.heap.size w w21)); clear hg hw hp_))
              go_roundg k1
              case measure => have := HK1.out; omega
              case rel => exact ⟨(y368), (wrap64 (x6_1 + 1)), an9, H', ⟨by have := HK1.out; omega⟩, ⟨ro9 HO_5⟩, ⟨bl9 HB⟩⟩
            ·rw [if_neg c14] at H
             exact absurd H (by simp)
           ·rw [if_neg c13] at H
            exact absurd H (by simp)
        ·rw [if_neg c10] at H
         exact absurd H (by simp)
       ·rw [if_neg c9] at H
        exact absurd H (by simp)
      ·rw [if_neg c8] at H
       have c8b0 : decide (x6_1 < a0) = false := decide_eq_false c8
       clear c8
       obtain rfl := Option.some.inj H
       go_wp2
       go_ret
       exact ⟨er9, bl9 HB⟩
   ·rw [if_neg c5] at H
    exact absurd H (by simp)
  ·rw [if_neg c4] at H
   exact absurd H (by simp)
 ·rw [if_neg c3] at H
  have c3b0 : ((l1.length : Int) == a0) = false := beq_eq_false_iff_ne.mpr c3
  have c3b1 : ((l1.length : Int) != a0) = true := bne_iff_ne.mpr c3
  obtain rfl := Option.some.inj H
  go_enter Try.func40, Try.ntmps40
  go_wp2
  go_ret
  exact ⟨er9, bl9 HB⟩
end GAll
namespace GAll
theorem eqA41 (d : Nat) (w : World) (x0 y0 : Int) (x1 y1 : Int) :
  (Op.equalIn (d + 2) 41 (.agg #[.int .i64 x0, .int .i64 x1]) (.agg #[.int .i64 y0, .int .i64 y1])).run Try.prog w = .ok (x0 == y0 && (x1 == y1)) w := by
 refine eqA_of Try.underlying41 (by kernel_rfl) ?_
 refine eqf_cons (by rfl) (by go_simp; rfl) (by go_simp; rfl) (by go_simp) ?_
 exact eqf_last (by rfl) (by go_simp; rfl) (by go_simp; rfl) (by go_simp)
end GAll
namespace GAll
attribute [local go_sem high] eqA41
mutual
def tangramref04_Same.j0 : Nat → Bool → Int → List (S41) → Int → List (S41) → Option (Bool)
 | 0, _, _, _, _, _ => none
 | k + 1, x19, x446000, x446001, x447000, x447001 => if x19 = true then (some false) else (tangramref04_Same.l0 k 0 x446000 x446001 x447000 x447001)
def tangramref04_Same.l0 : Nat → Int → Int → List (S41) → Int → List (S41) → Option (Bool)
 | 0, _, _, _, _, _ => none
 | k + 1, x5, x446000, x446001, x447000, x447001 => if x5 < (x446001.length : Int) then (if 0 ≤ x5 then (if x5 < (x447001.length : Int) then (if (!(((rd_T41 x446001 x5).f0) == ((rd_T41 x447001 x5).f0)) || (!(((rd_T41 x446001 x5).f1) == ((rd_T41 x447001 x5).f1)))) = true then (some false) else (tangramref04_Same.l0 k (wrap64 (x5 + 1)) x446000 x446001 x447000 x447001)) else (none)) else (none)) else (some true)
end
def tangramref04_Same.f (k : Nat) (a0_0 : Int) (l0_1 : List (S41)) (a1_0 : Int) (l1_1 : List (S41)) : Option (Bool) := if a0_0 = a1_0 then (tangramref04_Same.j0 k ((l0_1.length : Int) != (l1_1.length : Int)) a0_0 l0_1 a1_0 l1_1) else (tangramref04_Same.j0 k true a0_0 l0_1 a1_0 l1_1)
theorem tangramref04_Same.mono_l : ∀ k, (∀ y0 y1 y2 y3 y4, LeO (tangramref04_Same.j0 k y0 y1 y2 y3 y4) (tangramref04_Same.j0 (k + 1) y0 y1 y2 y3 y4)) ∧ (∀ y0 y1 y2 y3 y4, LeO (tangramref04_Same.l0 k y0 y1 y2 y3 y4) (tangramref04_Same.l0 (k + 1) y0 y1 y2 y3 y4))
 | 0 => ⟨fun _ _ _ _ _ r h => by simp [tangramref04_Same.j0] at h, fun _ _ _ _ _ r h => by simp [tangramref04_Same.l0] at h⟩
 | k + 1 => by
  obtain ⟨ih0, ih1⟩ := tangramref04_Same.mono_l k
  refine ⟨?_, ?_⟩
  ·intro y0 y1 y2 y3 y4
   unfold tangramref04_Same.j0
   repeat' first
   | (with_reducible exact ih0 _ _ _ _ _)
   | (with_reducible exact ih1 _ _ _ _ _)
   | (with_reducible exact LeO.refl _)
   | (with_reducible exact LeO.none _)
   | (with_reducible refine LeO.ite ?_ ?_)
   | (with_reducible refine LeO.bind ?_ (fun _ => ?_))
   | exact ih0 _ _ _ _ _
   | exact ih1 _ _ _ _ _
   | exact LeO.none _
   | refine LeO.ite ?_ ?_
   | refine LeO.bind ?_ (fun _ => ?_)
  ·intro y0 y1 y2 y3 y4
   unfold tangramref04_Same.l0
   repeat' first
   | (with_reducible exact ih0 _ _ _ _ _)
   | (with_reducible exact ih1 _ _ _ _ _)
   | (with_reducible exact LeO.refl _)
   | (with_reducible exact LeO.none _)
   | (with_reducible refine LeO.ite ?_ ?_)
   | (with_reducible refine LeO.bind ?_ (fun _ => ?_))
   | exact ih0 _ _ _ _ _
   | exact ih1 _ _ _ _ _
   | exact LeO.none _
   | refine LeO.ite ?_ ?_
   | refine LeO.bind ?_ (fun _ => ?_)
theorem tangramref04_Same.mono : ∀ a0 a1 a2 a3 k, LeO (tangramref04_Same.f k a0 a1 a2 a3) (tangramref04_Same.f (k + 1) a0 a1 a2 a3) := by
 intro a0 a1 a2 a3 k
 obtain ⟨ih0, ih1⟩ := tangramref04_Same.mono_l k
 unfold tangramref04_Same.f
 repeat' first
   | (with_reducible exact ih0 _ _ _ _ _)
   | (with_reducible exact ih1 _ _ _ _ _)
   | (with_reducible exact LeO.refl _)
   | (with_reducible exact LeO.none _)
   | (with_reducible refine LeO.ite ?_ ?_)
   | (with_reducible refine LeO.bind ?_ (fun _ => ?_))
   | exact ih0 _ _ _ _ _
   | exact ih1 _ _ _ _ _
   | exact LeO.none _
   | refine LeO.ite ?_ ?_
   | refine LeO.bind ?_ (fun _ => ?_)
end GAll
namespace GAll
mutual
def tangramref13_Same.l0 : Nat → List (List Int) → List (List Int) → Int → Option (Bool)
 | 0, _, _, _ => none
 | k + 1, x0, x1, x5 => if x5 < (x0.length : Int) then (if 0 ≤ x5 then (if x5 < (x1.length : Int) then (if ((rd_L2 x0 x5).length : Int) = ((rd_L2 x1 x5).length : Int) then (tangramref13_Same.l1 k x0 x1 x5 0) else (some false)) else (none)) else (none)) else (some true)
def tangramref13_Same.l1 : Nat → List (List Int) → List (List Int) → Int → Int → Option (Bool)
 | 0, _, _, _, _ => none
 | k + 1, x0, x1, x5, x6 => if 0 ≤ x5 then (if x5 < (x0.length : Int) then (if x6 < ((rd_L2 x0 x5).length : Int) then (if 0 ≤ x6 then (if x5 < (x1.length : Int) then (if x6 < ((rd_L2 x1 x5).length : Int) then (if (rd (rd_L2 x0 x5) x6) = (rd (rd_L2 x1 x5) x6) then (tangramref13_Same.l1 k x0 x1 x5 (wrap64 (x6 + 1))) else (some false)) else (none)) else (none)) else (none)) else (tangramref13_Same.l0 k x0 x1 (wrap64 (x5 + 1)))) else (none)) else (none)
end
def tangramref13_Same.f (k : Nat) (l0 : List (List Int)) (l1 : List (List Int)) : Option (Bool) := if (l0.length : Int) = (l1.length : Int) then (tangramref13_Same.l0 k l0 l1 0) else (some false)
theorem tangramref13_Same.mono_l : ∀ k, (∀ y0 y1 y2, LeO (tangramref13_Same.l0 k y0 y1 y2) (tangramref13_Same.l0 (k + 1) y0 y1 y2)) ∧ (∀ y0 y1 y2 y3, LeO (tangramref13_Same.l1 k y0 y1 y2 y3) (tangramref13_Same.l1 (k + 1) y0 y1 y2 y3))
 | 0 => ⟨fun _ _ _ r h => by simp [tangramref13_Same.l0] at h, fun _ _ _ _ r h => by simp [tangramref13_Same.l1] at h⟩
 | k + 1 => by
  obtain ⟨ih0, ih1⟩ := tangramref13_Same.mono_l k
  refine ⟨?_, ?_⟩
  ·intro y0 y1 y2
   unfold tangramref13_Same.l0
   repeat' first
   | (with_reducible exact ih0 _ _ _)
   | (with_reducible exact ih1 _ _ _ _)
   | (with_reducible exact LeO.refl _)
   | (with_reducible exact LeO.none _)
   | (with_reducible refine LeO.ite ?_ ?_)
   | (with_reducible refine LeO.bind ?_ (fun _ => ?_))
   | exact ih0 _ _ _
   | exact ih1 _ _ _ _
   | exact LeO.none _
   | refine LeO.ite ?_ ?_
   | refine LeO.bind ?_ (fun _ => ?_)
  ·intro y0 y1 y2 y3
   unfold tangramref13_Same.l1
   repeat' first
   | (with_reducible exact ih0 _ _ _)
   | (with_reducible exact ih1 _ _ _ _)
   | (with_reducible exact LeO.refl _)
   | (with_reducible exact LeO.none _)
   | (with_reducible refine LeO.ite ?_ ?_)
   | (with_reducible refine LeO.bind ?_ (fun _ => ?_))
   | exact ih0 _ _ _
   | exact ih1 _ _ _ _
   | exact LeO.none _
   | refine LeO.ite ?_ ?_
   | refine LeO.bind ?_ (fun _ => ?_)
theorem tangramref13_Same.mono : ∀ a0 a1 k, LeO (tangramref13_Same.f k a0 a1) (tangramref13_Same.f (k + 1) a0 a1) := by
 intro a0 a1 k
 obtain ⟨ih0, ih1⟩ := tangramref13_Same.mono_l k
 unfold tangramref13_Same.f
 repeat' first
   | (with_reducible exact ih0 _ _ _)
   | (with_reducible exact ih1 _ _ _ _)
   | (with_reducible exact LeO.refl _)
   | (with_reducible exact LeO.none _)
   | (with_reducible refine LeO.ite ?_ ?_)
   | (with_reducible refine LeO.bind ?_ (fun _ => ?_))
   | exact ih0 _ _ _
   | exact ih1 _ _ _ _
   | exact LeO.none _
   | refine LeO.ite ?_ ?_
   | refine LeO.bind ?_ (fun _ => ?_)
end GAll
end Go.Proofs.Ytaepieadbfndnaa
