/- DERIVED. Texts of this seat, one behind the other: lemmas and walks that the statement RotMemory needs. No condition. -/
import Derived.Test.YtkkhhbegeboonaaCRotMemoryb
import Derived.Lib.SliceRun
import Derived.Maps.Keyed
import Derived.WideKeyArr
import Derived.WideKeyElems
import Derived.WideKeyPair
import Derived.Defers
import Derived.Recover
import Derived.WalkLawsBesides
import Derived.Deep.QuietTactic
import Derived.BigQuiet
import Derived.StillTailTactics
import Derived.Test.YtkkhhbegeboonaaProg
import Derived.Below
import Derived.Deep.Draws
import Derived.Deep.AppendLies
import Derived.Maps.AppendAt
import Derived.OwnWalk
import Derived.Laws.BytesArg
import Derived.Laws.MakeOwn
import Derived.Laws.OwnMore
import Derived.Deep.OwnRows
import Derived.Tactics
import Derived.Lib.ConvBytes
import Derived.Laws.Slices
import Derived.WalkKit
import Derived.KernelRfl
import Derived.RowKit3
import Derived.Deep.LoopGhost
import Derived.WideLaws
import Derived.Deep.DeepCutAuto
import Derived.Deep.CutBlock
import Derived.Deep.RegionHeld3
import Derived.Laws.Rows
import Derived.Lib.AppendStr
import Derived.ArgAppend
import Derived.Laws.IdiomCopy
import Derived.OrdersHeld
import Derived.Laws.BitsLemmas
import Derived.RowKit
import Derived.Test.YtkkhhbegeboonaaCRotMemorya
namespace Go.Proofs.Ytkkhhbegeboonaa.Rot
open Go.RowKit Go.Proofs.YtkkhhbegeboonaaW.PrintWords Go.Proofs.Ytkkhhbegeboonaa.Mem
set_option linter.unusedVariables false
set_option linter.unusedSimpArgs false
def leaves (fr : List Int) (v : Int) (h : Int) : Bool := decide (h ≥ 0) && (decide (h < (fr.length : Int)) && (gi fr h.toNat == v))
def elems (fr : List Int) (v : Int) : List Int → List Bool → Except Int (List Bool)
 | [], S => .ok S
 | h :: t, S => if leaves fr v h = true then (if gb S h.toNat = true then .error 112 else elems fr v t (S.set h.toNat true)) else .error 111
def rows (fr ds : List Int) : Nat → List (List Int) → List Bool → Int × Int
 | _, [], _ => (0, 0)
 | v, row :: t, S => match elems fr v row S with
  | .error e => (v, e)
  | .ok S' => if (row.length : Int) = gi ds v then rows fr ds (v + 1) t S' else (v, 113)
def after (fr ds : List Int) (v : Nat) (row : List Int) (t : List (List Int)) : Except Int (List Bool) → Int × Int
 | .error e => (v, e)
 | .ok S' => if (row.length : Int) = gi ds v then rows fr ds (v + 1) t S' else (v, 113)
theorem after_ok (fr ds : List Int) (v : Nat) (row : List Int) (t : List (List Int)) (S' : List Bool) : after fr ds v row t (.ok S') = if (row.length : Int) = gi ds v then rows fr ds (v + 1) t S' else ((v : Int), 113) := rfl
theorem rows_cons (fr ds : List Int) (v : Nat) (row : List Int) (t : List (List Int)) (S : List Bool) : rows fr ds v (row :: t) S = after fr ds v row t (elems fr v row S) := by
 rw [rows]
 cases elems fr v row S <;> rfl
theorem elems_cons_no {fr : List Int} {v h : Int} {t : List Int} {S : List Bool} (hl : leaves fr v h = false) : elems fr v (h :: t) S = .error 111 := by simp [elems, hl]
theorem elems_cons_twice {fr : List Int} {v h : Int} {t : List Int} {S : List Bool} (hl : leaves fr v h = true) (hs : gb S h.toNat = true) : elems fr v (h :: t) S = .error 112 := by simp [elems, hl, hs]
theorem elems_cons {fr : List Int} {v h : Int} {t : List Int} {S : List Bool} (hl : leaves fr v h = true) (hs : gb S h.toNat = false) : elems fr v (h :: t) S = elems fr v t (S.set h.toNat true) := by simp [elems, hl, hs]
theorem elems_err (fr : List Int) (v : Int) : ∀ (l : List Int) (S : List Bool) (e : Int), elems fr v l S = .error e → e = 111 ∨ e = 112
 | [], S, e, h => by cases h
 | x :: l, S, e, h => by
  unfold elems at h
  split at h
  ·split at h
   ·injection h with h; exact .inr h.symm
   ·exact elems_err fr v l _ e h
  ·injection h with h; exact .inl h.symm
theorem rows_zero (fr ds : List Int) : ∀ (r : List (List Int)) (v : Nat) (S : List Bool), rows fr ds v r S = (0, 0) ∨ (rows fr ds v r S).2 ≠ 0
 | [], v, S => .inl rfl
 | row :: r, v, S => by
  rw [rows_cons]
  cases h : elems fr v row S with
  | error e =>
   right
   have := elems_err fr v row S e h
   show e ≠ 0
   omega
  | ok S' =>
   rw [after_ok]
   split
   ·exact rows_zero fr ds r (v + 1) S'
   ·right; show (113 : Int) ≠ 0; decide
def faultOf (n : Nat) (es : List (Int × Int)) (ds : List Int) (r : List (List Int)) : Int × Int :=
 if r.length = n then rows (froms es) ds 0 r (List.replicate (2 * es.length) false) else (0, 110)
theorem drop_row {r : List (List Int)} {v : Nat} (h : v < r.length) : r.drop v = gl r v :: r.drop (v + 1) := by
 rw [List.drop_eq_getElem_cons h]
 congr 1
 simp [gl, List.getD_eq_getElem?_getD, h]
theorem drop_int {r : List Int} {v : Nat} (h : v < r.length) : r.drop v = gi r v :: r.drop (v + 1) := by
 rw [List.drop_eq_getElem_cons h]
 congr 1
 simp [gi, List.getD_eq_getElem?_getD, h]
end Go.Proofs.Ytkkhhbegeboonaa.Rot
namespace Go.Proofs.Ytkkhhbegeboonaa.Rot
open Go.RowKit Go.Proofs.YtkkhhbegeboonaaW.PrintWords Go.Proofs.YtkkhhbegeboonaaW.PrintLast Go.Proofs.YtkkhhbegeboonaaW.PrintMore Go.Proofs.Ytkkhhbegeboonaa.Mem
set_option linter.unusedVariables false
set_option linter.unusedSimpArgs false
theorem Rows2.app {w w1 : World} {B bo : Nat} {vs : List Value} {gs : List (List Int)} (h : Rows2 w B bo vs gs) {k : Nat} (hk : k < gs.length) {v' : Value} {x : Int}
  (hown : w1.ownsRow B 3 1 v' ((gl gs k).length + 1) (encs (Value.int .i64) (gl gs k) ++ [.int .i64 x])) (hg : w.grownBy w1 (va vs k).ownBlock) (hat : v'.ownBlock = (va vs k).ownBlock ∨ ∃ b, v'.ownBlock = some b ∧ w.heap.size ≤ b) :
  Rows2 (w1.setCell ⟨bo, k, none⟩ v') B bo (vs.set k v') (gs.set k (gl gs k ++ [x])) := by
 have hl := h.len
 have hbo := lt_of h.out
 obtain ⟨f, hf⟩ := h.col
 have ho1 : w1.heap[bo]? = some (.cells vs.toArray 28 (0, 0)) := (hg.block bo hbo (fun e => (hf k hk bo e.symm).2 rfl)).trans h.out
 have hnew : ∀ q, v'.ownBlock = some q → q ≠ bo := by
  intro q hq
  rcases hat with e | ⟨b, e, hb⟩
  ·exact (hf k hk q (e ▸ hq)).2
  ·rw [hq] at e; injection e with e; omega
 refine ⟨by simp [h.len], ?_, ?_, ⟨fun b => if v'.ownBlock = some b then k else f b, ?_⟩, by have := h.base; have := hg.size; simp [World.setCell]; omega⟩
 ·rw [heap_set ho1]; simp
 ·intro j hj
  rw [List.length_set] at hj
  rw [gl_set, va_set]
  by_cases hkj : k = j
  ·subst hkj
   rw [if_pos ⟨rfl, by omega⟩, if_pos ⟨rfl, hj⟩]
   have e1 : encs (Value.int .i64) (gl gs k ++ [x]) = encs (Value.int .i64) (gl gs k) ++ [.int .i64 x] := by simp [encs]
   rw [List.length_append, List.length_singleton, e1]
   exact own_move hown (fun q hq => Below.heap_setCell _ _ _ _ (fun e => hnew q hq (by simpa using e)))
  ·rw [if_neg (by simp [hkj]), if_neg (by simp [hkj])]
   refine own_move (h.own j hj) (fun q hq => ?_)
   have hq2 := (h.own j hj).lt q hq
   rw [Below.heap_setCell _ _ _ _ (fun e => (hf j hj q hq).2 (by simpa using e))]
   exact hg.block q hq2.2 (fun e => hkj (by rw [← (hf k hk q e.symm).1, ← (hf j hj q hq).1]))
 ·intro j hj q hq
  rw [List.length_set] at hj
  rw [va_set] at hq
  by_cases hkj : k = j
  ·subst hkj
   rw [if_pos ⟨rfl, by omega⟩] at hq
   exact ⟨by simp [hq], hnew q hq⟩
  ·rw [if_neg (by simp [hkj])] at hq
   refine ⟨?_, (hf j hj q hq).2⟩
   show (if v'.ownBlock = some q then k else f q) = j
   rw [if_neg (fun e => ?_)]
   ·exact (hf j hj q hq).1
   ·rcases hat with e2 | ⟨b, e2, hb⟩
    ·exact hkj (by rw [← (hf k hk q (e2 ▸ e)).1, ← (hf j hj q hq).1])
    ·rw [e] at e2; injection e2 with e2
     have := ((h.own j hj).lt q hq).2
     omega
def part (ar : List (List Int)) (v j : Nat) : List (List Int) := (List.range ar.length).map fun u => if u < v then gl ar u else if u = v then (gl ar v).take j else []
theorem part_length (ar : List (List Int)) (v j : Nat) : (part ar v j).length = ar.length := by simp [part]
theorem gl_part {ar : List (List Int)} {v j u : Nat} (h : u < ar.length) : gl (part ar v j) u = if u < v then gl ar u else if u = v then (gl ar v).take j else [] := by
 unfold part gl
 simp [List.getD_eq_getElem?_getD, h]
theorem gl_eq {x y : List (List Int)} (hl : x.length = y.length) (h : ∀ v, v < x.length → gl x v = gl y v) : x = y := by
 refine List.ext_getElem hl fun p h1 h2 => ?_
 have := h p h1
 unfold gl at this
 simpa [List.getD_eq_getElem?_getD, h1, h2] using this
theorem part_set {ar : List (List Int)} {v j : Nat} (hv : v < ar.length) (hj : j < (gl ar v).length) : (part ar v j).set v (gl (part ar v j) v ++ [gi (gl ar v) j]) = part ar v (j + 1) := by
 refine gl_eq (by simp [part]) fun u hu => ?_
 rw [List.length_set, part_length] at hu
 rw [gl_set, part_length, gl_part hu, gl_part hu, gl_part hv]
 by_cases e : v = u
 ·subst e
  rw [if_pos ⟨rfl, hu⟩, if_neg (Nat.lt_irrefl _), if_pos rfl, if_neg (Nat.lt_irrefl _), if_pos rfl, List.take_succ_eq_append_getElem hj]
  simp [gi, List.getD_eq_getElem?_getD, hj]
 ·rw [if_neg (fun q => e q.1)]
  by_cases c : u < v
  ·rw [if_pos c, if_pos c]
  ·rw [if_neg c, if_neg c, if_neg (fun q => e q.symm), if_neg (fun q => e q.symm)]
theorem part_next {ar : List (List Int)} {v : Nat} (hv : v < ar.length) : part ar v (gl ar v).length = part ar (v + 1) 0 := by
 refine gl_eq (by simp [part]) fun u hu => ?_
 rw [part_length] at hu
 rw [gl_part hu, gl_part hu]
 by_cases c : u < v
 ·rw [if_pos c, if_pos (by omega)]
 ·rw [if_neg c]
  by_cases e : u = v
  ·subst e
   rw [if_pos rfl, if_pos (by omega), List.take_length]
  ·rw [if_neg e, if_neg (by omega)]
   by_cases g : u = v + 1
   ·rw [if_pos g]; rfl
   ·rw [if_neg g]
theorem part_all (ar : List (List Int)) : part ar ar.length 0 = ar := by
 refine gl_eq (by simp [part]) fun u hu => ?_
 rw [part_length] at hu
 rw [gl_part hu, if_pos hu]
theorem part_none (ar : List (List Int)) : part ar 0 0 = List.replicate ar.length [] := by
 refine gl_eq (by simp [part]) fun u hu => ?_
 rw [part_length] at hu
 rw [gl_part hu, gl_nil, if_neg (by omega)]
 by_cases g : u = 0
 ·rw [if_pos g]; rfl
 ·rw [if_neg g]
theorem part_app {w w1 : World} {B bo : Nat} {vs : List Value} {ar : List (List Int)} {v j : Nat} (h : Rows2 w B bo vs (part ar v j)) (hv : v < ar.length) (hj : j < (gl ar v).length) {V v' : Value} {y : Int} (hV : va vs v = V) (hy : gi (gl ar v) j = y)
  (hown : w1.ownsRow B 3 1 v' (j + 1) (encs (Value.int .i64) ((gl ar v).take j) ++ [.int .i64 y])) (hg : w.grownBy w1 V.ownBlock) (hat : v'.ownBlock = V.ownBlock ∨ ∃ b, v'.ownBlock = some b ∧ w.heap.size ≤ b) :
  Rows2 (w1.setCell ⟨bo, v, none⟩ v') B bo (vs.set v v') (part ar v (j + 1)) ∧ w1.cell? ⟨bo, v, none⟩ = some V ∧ w1.frozen? ⟨bo, v, none⟩ = false := by
 have e : gl (part ar v j) v = (gl ar v).take j := by rw [gl_part hv, if_neg (Nat.lt_irrefl _), if_pos rfl]
 have hk : v < (part ar v j).length := by rw [part_length]; exact hv
 subst hV
 have e2 : ((gl ar v).take j).length = j := by rw [List.length_take]; omega
 have ho1 : w1.heap[bo]? = some (.cells vs.toArray 28 (0, 0)) := by
  obtain ⟨f, hf⟩ := h.col
  exact (hg.block bo (lt_of h.out) (fun e => (hf v hk bo e.symm).2 rfl)).trans h.out
 have hl := h.len
 refine ⟨?_, heap_cell ho1 (by simp [va_of (show v < vs.length by omega)]), heap_free ho1 v⟩
 rw [← part_set hv hj, hy]
 exact Rows2.app h hk (by rw [e, e2]; exact hown) hg hat
def twin (h : Int) : Int := Go.bits .xor .i64 h 1
def aroundOf (fr : List Int) (r : List (List Int)) : List (List Int) := r.map fun row => row.map fun h => gi fr (twin h).toNat
theorem aroundOf_length (fr : List Int) (r : List (List Int)) : (aroundOf fr r).length = r.length := by simp [aroundOf]
theorem aroundOf_row {fr : List Int} {r : List (List Int)} {v : Nat} (hv : v < r.length) : gl (aroundOf fr r) v = (gl r v).map fun h => gi fr (twin h).toNat := by
 unfold aroundOf
 unfold gl
 simp [List.getD_eq_getElem?_getD, hv]
theorem aroundOf_at {fr : List Int} {r : List (List Int)} {v j : Nat} (hv : v < r.length) (hj : j < (gl r v).length) : gi (gl (aroundOf fr r) v) j = gi fr (twin (gi (gl r v) j)).toNat := by
 rw [aroundOf_row hv]
 unfold gi
 simp [List.getD_eq_getElem?_getD, hj]
set_option maxHeartbeats 1000000 in
set_option maxRecDepth 100000 in
theorem around_bad (n : Int) (A : Option Addr) (m c : Nat) (A1 : Option Addr) (m1 c1 : Nat) (v0 e0 : Int) (he : e0 ≠ 0) (w : World)
  (hc : ∀ W : World, Below w.heap.size w W → Calls Try.prog 15 #[.agg #[.int .i64 n, .slice A m c], .slice A1 m1 c1] W fun e w' => e = .returned (.tuple #[.int .i64 v0, .int .i64 e0]) ∧ Below W.heap.size W w') :
  Calls Try.prog 18 #[.agg #[.int .i64 n, .slice A m c], .slice A1 m1 c1] w fun e w' => e = .returned (.tuple #[.slice none 0 0, .int .i64 e0]) ∧ Below w.heap.size w w' := by
 have HX := Aside0.mk (heap_last w (.cells #[.int .i64 n, .slice A m c] 24 (0, 0)))
 have HB : Aside0 (Below w.heap.size w (w.alloc (.cells #[.int .i64 n, .slice A m c] 24 (0, 0)))) := ⟨(Below.refl _ _).alloc (Nat.le_refl _) _⟩
 have x0 := heap_cell (i := 0) HX.out rfl
 have x1 := heap_cell (i := 1) HX.out rfl
 have HC := Aside0.mk (hc _ HB.out)
 have hne : (e0 != 0) = true := bne_iff_ne.2 he
 clear hc
 go_enter Try.func18, Try.ntmps18
 go_wp2_with fail
 refine (HC.out).mono ?_
 rintro e w2 ⟨rfl, hb⟩
 have HB2 := Aside0.mk (HB.out.trans (hb.mono HB.out.size))
 clear hb
 go_wp2_with fail
 go_ret2
 exact ⟨rfl, HB2.out⟩
set_option maxHeartbeats 2000000 in
set_option maxRecDepth 100000 in
theorem around_calls (v0 : Int) (n : Int) (A : Option Addr) (c : Nat) (es : List (Int × Int)) (A1 : Option Addr) (c1 : Nat) (r : List (List Int)) (w : World) (he : Pairs w A es) (hl : es.length ≤ 4194304) (hr : Kd.C KR w A1 r.length r) (hn : r.length ≤ 1048576) (hlen : ∀ v, v < r.length → (gl r v).length ≤ 8388608)
  (htw : ∀ v j, v < r.length → j < (gl r v).length → 0 ≤ twin (gi (gl r v) j) ∧ twin (gi (gl r v) j) < ((2 * es.length : Nat) : Int))
  (hc : ∀ W : World, Below w.heap.size w W → Calls Try.prog 15 #[.agg #[.int .i64 n, .slice A es.length c], .slice A1 r.length c1] W fun e w' => e = .returned (.tuple #[.int .i64 v0, .int .i64 0]) ∧ Below W.heap.size W w') :
  Calls Try.prog 18 #[.agg #[.int .i64 n, .slice A es.length c], .slice A1 r.length c1] w fun e w' => ∃ v, e = .returned (.tuple #[v, .int .i64 0]) ∧ Kd.S KR 28 w' w.heap.size (fun _ => True) v (aroundOf (froms es) r) ∧ Below w.heap.size w w' := by
 have HX := Aside0.mk (heap_last w (.cells #[.int .i64 n, .slice A es.length c] 24 (0, 0)))
 have HB : Aside0 (Below w.heap.size w (w.alloc (.cells #[.int .i64 n, .slice A es.length c] 24 (0, 0)))) := ⟨(Below.refl _ _).alloc (Nat.le_refl _) _⟩
 have x0 := heap_cell (i := 0) HX.out rfl
 have x1 := heap_cell (i := 1) HX.out rfl
 have HC := Aside0.mk (hc _ HB.out)
 have HE := Aside0.mk he
 have HR := Aside0.mk hr
 have HT := Aside0.mk htw
 have HN := Aside0.mk hlen
 clear hc he hr htw hlen
 go_enter Try.func18, Try.ntmps18
 go_wp2_with fail
 refine (HC.out).mono ?_
 rintro e w2 ⟨rfl, hb⟩
 have HB2 := Aside0.mk (HB.out.trans (hb.mono HB.out.size))
 have HX2 := Aside0.mk ((hb.block _ (lt_of HX.out)).trans HX.out)
 clear hb x0 x1 HX HB
 have x0 := heap_cell (i := 0) HX2.out rfl
 have x1 := heap_cell (i := 1) HX2.out rfl
 have hsz := HB2.out.size
 go_wp2_with fail
 refine (begins_calls n A c es w2 (HE.out.below HB2.out) hl).mono ?_
 rintro e w3 ⟨v3, rfl, hR3, hb3⟩
 have HB3 := Aside0.mk (HB2.out.trans (hb3.mono HB2.out.size))
 obtain ⟨A3, c3, hv3, hc3, hC3⟩ := Kd.R_reads hR3
 have hfl := froms_length es
 rw [hfl] at hv3
 subst hv3
 have HF := Aside0.mk hC3
 have HFL := Aside0.mk hfl
 obtain ⟨fr, hfr⟩ : ∃ fr, fr = froms es := ⟨_, rfl⟩
 rw [← hfr] at HF HFL
 have HFR := Aside0.mk hfr
 have hs3 := HB3.out.size
 clear hR3 hC3 hb3 hc3 hfl hfr x0 x1 HX2 HB2 HE HC hsz
 have mk1 := print_make_of (P := Try.prog) 25 28 (.slice none 0 0) 24 Try.underlying25 info_ints rfl (by decide) r.length (by omega)
 rw [made_nil] at mk1
 go_wp2_with fail
 clear mk1
 have HG := Aside0.mk (Rows2.start w3 r.length)
 have HB4 : Aside0 (Below w.heap.size w (w3.alloc (.cells (Array.replicate r.length (Value.slice none 0 0)) 28 (0, 0)))) := ⟨HB3.out.alloc hs3 _⟩
 have HF4 : Aside0 (Below w3.heap.size w3 (w3.alloc (.cells (Array.replicate r.length (Value.slice none 0 0)) 28 (0, 0)))) := ⟨(Below.refl _ _).alloc (Nat.le_refl _) _⟩
 obtain ⟨ar, har⟩ : ∃ ar, ar = aroundOf fr r := ⟨_, rfl⟩
 have harl : ar.length = r.length := by rw [har, aroundOf_length]
 rw [show List.replicate r.length [] = part ar 0 0 by rw [part_none, harl]] at HG
 generalize w3.alloc (.cells (Array.replicate r.length (Value.slice none 0 0)) 28 (0, 0)) = w4 at HG HB4 HF4 ⊢
 obtain ⟨bo, hbo⟩ : ∃ bo, bo = w3.heap.size := ⟨_, rfl⟩
 rw [← hbo] at HG ⊢
 have HAT : Aside0 (∀ v j, v < r.length → j < (gl r v).length → gi (gl ar v) j = gi fr (twin (gi (gl r v) j)).toNat) := ⟨fun v j h1 h2 => by rw [har]; exact aroundOf_at h1 h2⟩
 have HAL : Aside0 (∀ v, v < r.length → (gl ar v).length = (gl r v).length) := ⟨fun v h1 => by rw [har, aroundOf_row h1, List.length_map]⟩
 have HARL := Aside0.mk harl
 have HAR := Aside0.mk har
 have HBO : Aside0 (w.heap.size ≤ bo ∧ bo = w3.heap.size) := ⟨by omega, hbo⟩
 clear har harl hbo
 obtain ⟨i0, hi0, hz0, hz1, hz2⟩ := info_parts info_int
 go_loopw [30] (fun y wr => ∃ (v : Nat) (vs : List Value), y = .int .i64 (v : Int) ∧ v ≤ r.length ∧ Aside0 (Rows2 wr (bo + 1) bo vs (part ar v 0)) ∧ Aside0 (Below w.heap.size w wr) ∧ Aside0 (Below w3.heap.size w3 wr)) (fun y _ => r.length - (intOf y).toNat)
 case atStart => exact ⟨0, _, rfl, by omega, HG, HB4, HF4⟩
 case round =>
  clear HG HB4 HF4
  obtain ⟨v, vs, rfl, hi, HG, HB, HF3⟩ := hrel
  by_cases hlt : v < r.length
  ·obtain ⟨ad, D, cD, eA, hx0, hcD, hrow⟩ := row_at HR.out hlt
   subst eA
   have hx := (HB.out.cell (cell_lt hx0)).trans hx0
   clear hx0
   have HROW := Aside0.mk hrow
   have hal := HAL.out v hlt
   have hrl := HN.out v hlt
   have HT2 : Aside0 (∀ j, j < (gl r v).length → 0 ≤ twin (gi (gl r v) j) ∧ twin (gi (gl r v) j) < ((2 * es.length : Nat) : Int)) := ⟨fun j hj => HT.out v j hlt hj⟩
   have HA2 : Aside0 (∀ j, j < (gl r v).length → gi (gl ar v) j = gi fr (twin (gi (gl r v) j)).toNat) := ⟨fun j hj => HAT.out v j hlt hj⟩
   obtain ⟨row, hrw⟩ : ∃ row, row = gl r v := ⟨_, rfl⟩
   rw [← hrw] at hx hcD HROW hal hrl HT2 HA2
   have HAL2 := Aside0.mk hal
   clear hrow hrw hal
   go_wp2_with fail
   have HP0 := Aside0.mk (part_next (ar := ar) (v := v) (by rw [HARL.out]; exact hlt))
   have HVL : Aside0 (v < ar.length) := ⟨by rw [HARL.out]; exact hlt⟩
   go_loopw [37] (fun y wr => ∃ (j : Nat) (vs : List Value), y = .int .i64 (j : Int) ∧ j ≤ row.length ∧ Aside0 (Rows2 wr (bo + 1) bo vs (part ar v j)) ∧ Aside0 (Below w.heap.size w wr) ∧ Aside0 (Below w3.heap.size w3 wr)) (fun y _ => row.length - (intOf y).toNat)
   case atStart => exact ⟨0, vs, rfl, by omega, HG, HB, HF3⟩
   case round =>
    clear HG HB HF3 hx
    obtain ⟨j, vs, rfl, hj, HG, HB, HF3⟩ := hrel
    by_cases hjl : j < row.length
    ·obtain ⟨ad2, eA, hx⟩ := Kd.at_int (Kd.C_below HROW.out HB.out) (j : Int) (by omega) (by omega)
     subst eA
     obtain ⟨t1, t2⟩ := HT2.out j hjl
     obtain ⟨q, hq⟩ := Int.eq_ofNat_of_zero_le t1
     have hav := HA2.out j hjl
     rw [hq, Int.toNat_natCast] at hav
     rw [hq] at t2
     obtain ⟨x, hxx⟩ : ∃ x, x = gi row j := ⟨_, rfl⟩
     rw [gi_rd, ← hxx, Int.toNat_natCast] at hx
     rw [← hxx] at hq
     have hq2 : Go.bits .xor .i64 x 1 = (q : Int) := hq
     have t3 : (q : Int) < 2 * (es.length : Int) := by omega
     clear t1 hq hxx
     have hflen := HFL.out
     obtain ⟨adf, eF, hf⟩ := Kd.at_int (Kd.C_below HF.out HF3.out) (q : Int) (by omega) (by omega)
     subst eF
     rw [gi_rd, Int.toNat_natCast] at hf
     obtain ⟨y, hy⟩ : ∃ y, y = gi fr q := ⟨_, rfl⟩
     rw [← hy] at hf hav
     have HAV := Aside0.mk hav
     clear hy hav hflen
     have ho := HG.out.own v (by rw [part_length]; exact HVL.out)
     have eg : gl (part ar v j) v = (gl ar v).take j := by rw [gl_part HVL.out, if_neg (Nat.lt_irrefl _), if_pos rfl]
     have el : ((gl ar v).take j).length = j := by rw [List.length_take, HAL2.out]; omega
     rw [eg, el] at ho
     obtain ⟨Av, cv, hV⟩ := own_slice ho
     have HV := Aside0.mk hV
     rw [hV] at ho
     have hc := HG.out.cell (j := v) (by rw [part_length]; exact HVL.out)
     rw [hV] at hc
     have HO : Aside0 (wr.drew.ownsRow (bo + 1) 3 1 (.slice Av j cv) j (encs (Value.int .i64) ((gl ar v).take j))) := ⟨ho⟩
     have HGD : Aside0 (Rows2 wr.drew (bo + 1) bo vs (part ar v j)) := ⟨⟨HG.out.len, HG.out.out, HG.out.own, HG.out.col, HG.out.base⟩⟩
     have HBD : Aside0 (Below w.heap.size w wr.drew) := ⟨HB.out.drew⟩
     have HFD : Aside0 (Below w3.heap.size w3 wr.drew) := ⟨HF3.out.drew⟩
     have HS0 : Aside0 (wr.drew.cell? ⟨bo, v, none⟩ = some (.slice Av j cv)) := ⟨hc⟩
     have HS1 : Aside0 (wr.drew.cell? (adf.add q) = some (.int .i64 y)) := ⟨hf⟩
     clear ho eg el hV hc hf HG HB HF3
     go_wp2_with fail
     refine start_ (n := 15) (S := fun w' => w'.cell? ⟨bo, v, none⟩ = some (.slice Av j cv) ∧ w'.cell? (adf.add q) = some (.int .i64 y)) (ds := [12, 14]) #[false, false, false, false, false, false, false, false, false, false, false, false, false, false, false] (by kernel_rfl) rfl rfl ⟨HS0.out, HS1.out⟩ (fun hHeld => ?_)
     refine pure_ (i := 0) (N := some 41) (v := ?_) (a' := ?_) #[true, false, false, false, false, false, false, false, false, false, false, false, false, false, false] rfl rfl (by kernel_rfl) (fun _ _ _ h => h) (Or.inl ⟨by rfl, ?_⟩) ?_ ?_
     rotate_left
     ·intro w'
      go_simp
      with_reducible rfl
     rotate_left
     ·simp only [Act.put, List.setIfInBounds_toArray, List.set_cons_zero, List.set_cons_succ, i64_w, i32_w]
      rfl
     refine pure_ (i := 1) (N := some 42) (v := ?_) (a' := ?_) #[true, true, false, false, false, false, false, false, false, false, false, false, false, false, false] rfl rfl (by kernel_rfl) (fun _ _ _ h => h) (Or.inl ⟨by rfl, ?_⟩) ?_ ?_
     rotate_left
     ·intro w'
      go_simp
      with_reducible rfl
     rotate_left
     ·simp only [Act.put, List.setIfInBounds_toArray, List.set_cons_zero, List.set_cons_succ, i64_w, i32_w]
      rfl
     refine pure_ (i := 2) (N := some 43) (v := ?_) (a' := ?_) #[true, true, true, false, false, false, false, false, false, false, false, false, false, false, false] rfl rfl (by kernel_rfl) (fun _ _ _ h => h) (Or.inl ⟨by rfl, ?_⟩) ?_ ?_
     rotate_left
     ·intro w'
      go_simp
      with_reducible rfl
     rotate_left
     ·simp only [Act.put, List.setIfInBounds_toArray, List.set_cons_zero, List.set_cons_succ, i64_w, i32_w]
      rfl
     refine pure_ (i := 3) (N := some 44) (v := ?_) (a' := ?_) #[true, true, true, true, false, false, false, false, false, false, false, false, false, false, false] rfl rfl (by kernel_rfl) (fun _ _ _ h => h) (Or.inl ⟨by rfl, ?_⟩) ?_ ?_
     rotate_left
     ·intro w'
      go_simp
      with_reducible rfl
     rotate_left
     ·simp only [Act.put, List.setIfInBounds_toArray, List.set_cons_zero, List.set_cons_succ, i64_w, i32_w]
      rfl
     refine pure_ (i := 4) (N := some 45) (v := ?_) (a' := ?_) #[true, true, true, true, true, false, false, false, false, false, false, false, false, false, false] rfl rfl (by kernel_rfl) (fun _ _ _ h => h) (Or.inl ⟨by rfl, ?_⟩) ?_ ?_
     rotate_left
     ·intro w'
      go_simp
      with_reducible rfl
     rotate_left
     ·simp only [Act.put, List.setIfInBounds_toArray, List.set_cons_zero, List.set_cons_succ, i64_w, i32_w]
      rfl
     refine pure_ (i := 6) (N := some 47) (v := ?_) (a' := ?_) #[true, true, true, true, true, false, true, false, false, false, false, false, false, false, false] rfl rfl (by kernel_rfl) (fun _ _ _ h => h) (Or.inl ⟨by rfl, ?_⟩) ?_ ?_
     rotate_left
     ·intro w'
      go_simp
      with_reducible rfl
     rotate_left
     ·simp only [Act.put, List.setIfInBounds_toArray, List.set_cons_zero, List.set_cons_succ, i64_w, i32_w]
      rfl
     refine pure_ (i := 7) (N := some 48) (v := ?_) (a' := ?_) #[true, true, true, true, true, false, true, true, false, false, false, false, false, false, false] rfl rfl (by kernel_rfl) (fun _ _ _ h => h) (Or.inl ⟨by rfl, ?_⟩) ?_ ?_
     rotate_left
     ·intro w'
      go_simp
      with_reducible rfl
     rotate_left
     ·simp only [Act.put, List.setIfInBounds_toArray, List.set_cons_zero, List.set_cons_succ, i64_w, i32_w]
      rfl
     refine pure_ (i := 8) (N := some 49) (v := ?_) (a' := ?_) #[true, true, true, true, true, false, true, true, true, false, false, false, false, false, false] rfl rfl (by kernel_rfl) (fun _ _ _ h => h) (Or.inl ⟨by rfl, ?_⟩) ?_ ?_
     rotate_left
     ·intro w'
      go_simp
      with_reducible rfl
     rotate_left
     ·simp only [Act.put, List.setIfInBounds_toArray, List.set_cons_zero, List.set_cons_succ, i64_w, i32_w]
      rfl
     refine pure_ (i := 9) (N := some 50) (v := ?_) (a' := ?_) #[true, true, true, true, true, false, true, true, true, true, false, false, false, false, false] rfl rfl (by kernel_rfl) (fun _ _ _ h => h) (Or.inl ⟨by rfl, ?_⟩) ?_ ?_
     rotate_left
     ·intro w'
      go_simp
      with_reducible rfl
     rotate_left
     ·simp only [Act.put, List.setIfInBounds_toArray, List.set_cons_zero, List.set_cons_succ, i64_w, i32_w]
      rfl
     refine take_ (i := 5) (N := some 46) (v := ?_) (a' := ?_) #[true, true, true, true, true, true, true, true, true, true, false, false, false, false, false] rfl rfl (by kernel_rfl) (fun _ _ _ h => h) (Or.inl ⟨by rfl, ?_⟩) hHeld ?_ ?_
     rotate_left
     ·rintro w' ⟨s0, s1⟩
      go_simp
      with_reducible rfl
     rotate_left
     ·simp only [Act.put, List.setIfInBounds_toArray, List.set_cons_zero, List.set_cons_succ, i64_w, i32_w]
      rfl
     refine take_ (i := 10) (N := some 51) (v := ?_) (a' := ?_) #[true, true, true, true, true, true, true, true, true, true, true, false, false, false, false] rfl rfl (by kernel_rfl) (fun _ _ _ h => h) (Or.inl ⟨by rfl, ?_⟩) hHeld ?_ ?_
     rotate_left
     ·rintro w' ⟨s0, s1⟩
      go_simp
      with_reducible rfl
     rotate_left
     ·simp only [Act.put, List.setIfInBounds_toArray, List.set_cons_zero, List.set_cons_succ, i64_w, i32_w]
      rfl
     refine one_ (i := 11) (N := some 52) #[true, true, true, true, true, true, true, true, true, true, true, true, false, false, false] rfl rfl (by kernel_rfl) (by decide) (fun K hK => ?_)
     refine value_ (w1 := ?_) (v := ?_) (by rfl) rfl ?_ ?_
     rotate_left 2
     ·go_simp
      constructor
      ·rfl
      ·rfl
     refine hK.out _ _ ⟨(World.cell?_alloc_lt _ _ _ (World.block_lt_of_cell? _ _ hHeld.1)).trans hHeld.1, (World.cell?_alloc_lt _ _ _ (World.block_lt_of_cell? _ _ hHeld.2)).trans hHeld.2⟩ (fun hHeld => ?_)
     clear hK K
     refine norm_ (a' := ?_) ?_ ?_
     rotate_left
     ·show Act.put _ (some 52) _ = _
      simp only [Act.put, List.setIfInBounds_toArray, List.set_cons_zero, List.set_cons_succ, i64_w, i32_w]
      rfl
     refine last_ (i := 12) (N := some 53) #[true, true, true, true, true, true, true, true, true, true, true, true, true, false, false] rfl rfl (by kernel_rfl) (by decide) (fun K hK => ?_)
     refine step_append_cells (bo + 1) (by rfl) (.tmp 46) (.tmp 52) 28 3 (.int .i64 0) 1 8 rfl Try.underlying28 info_int rfl (by decide) (by omega) (.slice Av j cv) j (encs (Value.int .i64) ((gl ar v).take j)) [.int .i64 y] rfl rfl rfl ?aN HO.out (Below.refl _ _) HGD.out.base ?aL ?_
     (case aN => intro u hu; simp at hu; subst hu; rfl)
     (case aL => omega)
     intro v1 w6 hown hb hg hat
     obtain ⟨A', c', rfl⟩ := own_slice hown
     obtain ⟨g1, g2, g3⟩ := part_app HGD.out HVL.out (by rw [HAL2.out]; exact hjl) HV.out HAV.out hown hg hat
     have HG6 := Aside0.mk g1
     have HB6 := Aside0.mk (HBD.out.grown hg HBD.out.size (fun k hk => by have := (HO.out.lt k hk).1; have := HBO.out.1; omega))
     have HF6 := Aside0.mk (HFD.out.grown hg HFD.out.size (fun k hk => by have := (HO.out.lt k hk).1; have := HBO.out.2; omega))
     refine hK.out _ _ ?_
     clear hK K
     refine norm_ (a' := ?_) ?_ ?_
     rotate_left
     ·show Act.put _ (some 53) _ = _
      simp only [Act.put, List.setIfInBounds_toArray, List.set_cons_zero, List.set_cons_succ, i64_w, i32_w]
      rfl
     refine pure_ (i := 13) (N := some 54) (v := ?_) (a' := ?_) #[true, true, true, true, true, true, true, true, true, true, true, true, true, true, false] rfl rfl (by kernel_rfl) (fun _ _ _ h => h) (Or.inl ⟨by rfl, ?_⟩) ?_ ?_
     rotate_left
     ·intro w'
      go_simp
      with_reducible rfl
     rotate_left
     ·simp only [Act.put, List.setIfInBounds_toArray, List.set_cons_zero, List.set_cons_succ, i64_w, i32_w]
      rfl
     refine last_ (i := 14) (N := none) #[true, true, true, true, true, true, true, true, true, true, true, true, true, true, true] rfl rfl (by kernel_rfl) (by decide) (fun K hK => ?_)
     refine skip_ (w1 := ?_) (by rfl) rfl ?_ ?_
     rotate_left
     ·go_simp
      rfl
     refine hK.out _ _ ?_
     clear hK K
     refine done_ (by kernel_rfl) ?_
     have HB7 := Aside0.mk (HB6.out.setCell (p := ⟨bo, v, none⟩) HBO.out.1 (.slice A' (j + 1) c'))
     have HF7 := Aside0.mk (HF6.out.setCell (p := ⟨bo, v, none⟩) (by have := HBO.out.2; simp; omega) (.slice A' (j + 1) c'))
     clear HB6 HF6
     go_wp2_with fail
     go_roundw
     case rel => exact ⟨j + 1, _, by go_num, by omega, HG6, HB7, HF7⟩
     case measure => simp [intOf]; omega
    ·obtain rfl : j = row.length := by omega
     rw [← HAL2.out, HP0.out] at HG
     go_wp2_with fail
     go_roundw
     case rel => exact ⟨v + 1, vs, by go_num, by omega, HG, HB, HF3⟩
     case measure => simp [intOf]; omega
  ·obtain rfl : v = r.length := by omega
   have hz := HG.out.tells (base := w.heap.size) HBO.out.1 (by have := HBO.out.1; omega) (by rw [part_length, HARL.out]; omega)
   rw [part_length, HARL.out, show part ar r.length 0 = ar by rw [← HARL.out]; exact part_all ar, HAR.out, HFR.out] at hz
   have HZ := Aside0.mk hz
   clear hz
   go_wp2_with fail
   go_ret2
   exact ⟨_, rfl, HZ.out, HB.out⟩
end Go.Proofs.Ytkkhhbegeboonaa.Rot
namespace Go.Proofs.Ytkkhhbegeboonaa.Rot
open Go.RowKit Go.Proofs.YtkkhhbegeboonaaW.PrintWords Go.Proofs.YtkkhhbegeboonaaW.PrintLast Go.Proofs.YtkkhhbegeboonaaW.PrintMore Go.Proofs.Ytkkhhbegeboonaa.Mem
set_option linter.unusedVariables false
set_option linter.unusedSimpArgs false
theorem grow_none (w : World) :
  Calls Try.prog 59 #[.slice none 0 0, .int .i64 0] w fun e w' => e = .returned (.slice none 0 0) ∧ w = w' := by
 go_enter Try.func59, Try.ntmps59
 go_wp2_with fail
 go_ret
 exact ⟨rfl, rfl⟩
set_option maxHeartbeats 1000000 in
set_option maxRecDepth 100000 in
theorem grow_some (n : Nat) (h0 : 0 < n) (hn : n * 8 ≤ 140737488355328) (w : World) :
  Calls Try.prog 59 #[.slice none 0 0, .int .i64 (n : Int)] w fun e w' => ∃ v, e = .returned v ∧ Kd.R (Kd.int .i64) 3 w' w.heap.size (fun _ => True) v [] ∧ Below w.heap.size w w' := by
 have t0 : decide ((n : Int) < 0) = false := decide_eq_false (by omega)
 have t1 : decide ((n : Int) > 0) = true := decide_eq_true (by omega)
 have t2 : decide (0 < n) = true := decide_eq_true h0
 go_enter Try.func59, Try.ntmps59
 go_wp2_with (at_builtin; go_loud (refine Kd.R_append_zeros (Kd.int .i64) (w0 := w) (W := w) w.heap.size rfl _ _ 28 3 3 (.int .i64 0) 8 rfl Try.underlying28 Try.underlying3 info_int rfl (by decide) (by decide) (.slice none 0 0) [] 0 (n : Int) (fun _ => True) rfl rfl rfl (fun _ _ => trivial) (Kd.R_nil _ _ _ _ _) (by omega) (Below.refl _ _) (Nat.le_refl _) (by simp; omega) ?_))
 intro v1 w1 hR hb _ _
 obtain ⟨A, c, rfl, hlc, _⟩ := Kd.R_reads hR
 have HR := Aside0.mk (Kd.R_take hR (Nat.zero_le _))
 have HB := Aside0.mk hb
 clear hlc
 clear hR hb t0 t1 t2
 go_wp2_with fail
 go_ret
 exact ⟨_, rfl, HR.out, HB.out⟩
theorem grow_any (n : Nat) (hn : n * 8 ≤ 140737488355328) (w : World) :
  Calls Try.prog 59 #[.slice none 0 0, .int .i64 (n : Int)] w fun e w' => ∃ v, e = .returned v ∧ Kd.R (Kd.int .i64) 3 w' w.heap.size (fun _ => True) v [] ∧ Below w.heap.size w w' := by
 rcases Nat.eq_zero_or_pos n with rfl | h0
 ·refine (grow_none w).mono ?_
  rintro e w' ⟨rfl, rfl⟩
  exact ⟨_, rfl, Kd.R_nil _ _ _ _ _, Below.refl _ _⟩
 ·exact grow_some n h0 hn w
def sumTo (r : List (List Int)) (k : Nat) : Nat := ((r.take k).map List.length).sum
theorem sumTo_succ {r : List (List Int)} {k : Nat} (h : k < r.length) : sumTo r (k + 1) = sumTo r k + (gl r k).length := by
 unfold sumTo
 rw [List.take_succ_eq_append_getElem h, List.map_append, List.sum_append]
 simp [gl, List.getD_eq_getElem?_getD, h]
theorem sumTo_le (r : List (List Int)) (k : Nat) : sumTo r k ≤ sumTo r r.length := by
 unfold sumTo
 rw [List.take_length]
 conv => rhs; rw [← List.take_append_drop k r, List.map_append, List.sum_append]
 omega
theorem flat_take {r : List (List Int)} {k : Nat} (h : k < r.length) : (r.take (k + 1)).flatten = (r.take k).flatten ++ gl r k := by
 rw [List.take_succ_eq_append_getElem h, List.flatten_append]
 simp [gl, List.getD_eq_getElem?_getD, h]
theorem flat_length (r : List (List Int)) (k : Nat) : (r.take k).flatten.length = sumTo r k := by
 unfold sumTo
 rw [List.length_flatten]
set_option maxHeartbeats 1000000 in
set_option maxRecDepth 100000 in
theorem concat_calls (A : Option Addr) (c : Nat) (r : List (List Int)) (w : World) (hr : Kd.C KR w A r.length r) (hs : sumTo r r.length * 8 ≤ 140737488355328) :
  Calls Try.prog 57 #[.slice A r.length c] w fun e w' => ∃ v, e = .returned v ∧ Kd.R (Kd.int .i64) 3 w' w.heap.size (fun _ => True) v r.flatten ∧ Below w.heap.size w w' := by
 have hrl := C_le hr
 have HR := Aside0.mk hr
 clear hr
 have HS := Aside0.mk hs
 clear hs
 go_enter Try.func57, Try.ntmps57
 go_wp2_with fail
 go_loop [3, 11] (fun z y => ∃ k : Nat, z = .int .i64 ((sumTo r k : Nat) : Int) ∧ y = .int .i64 (k : Int) ∧ k ≤ r.length) (fun _ y => r.length - (intOf y).toNat)
 case atStart => exact ⟨0, rfl, rfl, by omega⟩
 case round =>
  obtain ⟨k, rfl, rfl, hk⟩ := hrel
  have hle := sumTo_le r k
  have hsb := HS.out
  by_cases hlt : k < r.length
  ·obtain ⟨ad, B, cB, eA, hx, hcB, _⟩ := row_at HR.out hlt
   subst eA
   have hsu := sumTo_succ hlt
   have hle2 := sumTo_le r (k + 1)
   have hw : IntKind.i64.wrap (((sumTo r k : Nat) : Int) + (((gl r k).length : Nat) : Int)) = ((sumTo r (k + 1) : Nat) : Int) := by rw [IntWalk.i64_in _ (by omega)]; omega
   have t0 : decide (((sumTo r (k + 1) : Nat) : Int) < 0) = false := decide_eq_false (by omega)
   clear hsu
   go_wp2_with fail
   exact ⟨⟨k + 1, rfl, by go_num, by omega⟩, by simp [intOf]; omega⟩
  ·obtain rfl : k = r.length := by omega
   obtain ⟨sz, hsz⟩ : ∃ sz, sz = sumTo r r.length := ⟨_, rfl⟩
   rw [← hsz] at hsb ⊢
   have HSZ := Aside0.mk hsz
   clear hsz hle hk HS
   go_wp2_with fail
   refine (grow_any sz hsb w).mono ?_
   rintro e w2 ⟨v2, rfl, hR, hb⟩
   obtain ⟨A2, c2, rfl, _, _⟩ := Kd.R_reads hR
   have HB := Aside0.mk hb
   have HO := Aside0.mk hR
   clear hR hb
   go_wp2_with fail
   go_loopw [6, 27] (fun z y wr => ∃ (k : Nat) (B : Option Addr) (cc : Nat), z = .slice B (sumTo r k) cc ∧ y = .int .i64 (k : Int) ∧ k ≤ r.length ∧ Aside0 (Kd.R (Kd.int .i64) 3 wr w.heap.size (fun _ => True) (.slice B (sumTo r k) cc) (r.take k).flatten) ∧ Aside0 (Below w.heap.size w wr)) (fun _ y _ => r.length - (intOf y).toNat)
   case atStart => exact ⟨0, A2, c2, rfl, rfl, by omega, HO, HB⟩
   case round =>
    clear HO HB
    obtain ⟨k, B, cc, rfl, rfl, hk, HO, HB⟩ := hrel
    by_cases hlt : k < r.length
    ·obtain ⟨ad, D, cD, eA, hx, hcD, hrow⟩ := row_at (Kd.C_below HR.out HB.out) hlt
     subst eA
     have HROW := Aside0.mk hrow
     have hsu := sumTo_succ hlt
     have hle2 := sumTo_le r (k + 1)
     have hz := HSZ.out
     have hfl := flat_length r k
     have HFT := Aside0.mk (flat_take hlt)
     obtain ⟨row, hrw⟩ : ∃ row, row = gl r k := ⟨_, rfl⟩
     rw [← hrw] at hx hcD HROW hsu HFT
     clear hrow hrw
     have hsb2 : (sumTo r k + row.length) * 8 ≤ 140737488355328 := by omega
     have hfl2 : ((r.take k).flatten.length + row.length) * 8 ≤ 140737488355328 := by rw [hfl]; exact hsb2
     have HSU := Aside0.mk hsu
     clear hsu hz hfl hle2
     go_wp2_with (at_builtin; go_loud (refine Kd.R_append_rows (Kd.int .i64) (Rr := (Kd.int .i64).K wr) (w0 := w) (W := wr) w.heap.size rfl _ _ 28 3 (.int .i64 0) 8 rfl Try.underlying28 info_int rfl (by decide) (by decide) (.slice B (sumTo r k) cc) (r.take k).flatten row D row.length cD (fun _ => True) (fun _ => False) rfl rfl HO.out HROW.out (fun _ _ h => h) (fun _ h => h.elim) (fun _ _ => trivial) HB.out HB.out.size hfl2 ?_))
     intro v1 w1 hR hb _ _
     rw [← HFT.out] at hR
     obtain ⟨B1, c1, hv1, _, _⟩ := Kd.R_reads hR
     rw [flat_length] at hv1
     subst hv1
     have HO1 := Aside0.mk hR
     have HB1 := Aside0.mk hb
     clear hR hb HO HB
     go_wp2_with fail
     go_roundw
     case rel => exact ⟨k + 1, B1, c1, rfl, by go_num, by omega, HO1, HB1⟩
     case measure => simp [intOf]; omega
    ·obtain rfl : k = r.length := by omega
     rw [List.take_length] at HO
     go_wp2_with fail
     go_ret
     exact ⟨_, rfl, HO.out, HB.out⟩
end Go.Proofs.Ytkkhhbegeboonaa.Rot
namespace Go.Proofs.Ytkkhhbegeboonaa.Rot
open Go.RowKit Go.Proofs.YtkkhhbegeboonaaW.PrintWords Go.Proofs.YtkkhhbegeboonaaW.PrintLast Go.Proofs.YtkkhhbegeboonaaW.PrintMore Go.Proofs.Ytkkhhbegeboonaa.Mem
set_option linter.unusedVariables false
set_option linter.unusedSimpArgs false
theorem two_rows {W : World} {b c1 c2 : Nat} {X1 X2 : Option Addr} {l1 l2 : List Int} {n1 n2 : Nat} (h : W.heap[b]? = some (.cells #[.slice X1 n1 c1, .slice X2 n2 c2] 28 (0, 0))) (h1 : Kd.C (Kd.int .i64) W X1 n1 l1) (h2 : Kd.C (Kd.int .i64) W X2 n2 l2) (hc1 : n1 ≤ c1) (hc2 : n2 ≤ c2) :
  Kd.C KR W (some ⟨b, 0, none⟩) [l1, l2].length [l1, l2] := by
 have e1 : l1.length = n1 := h1.1
 have e2 : l2.length = n2 := h2.1
 subst e1 e2
 refine ⟨rfl, by simp, fun _ => ⟨_, rfl, fun j p hj => ?_⟩⟩
 rcases j with _ | _ | j
 ·obtain rfl : p = l1 := by simpa using hj.symm
  refine ⟨[_], rfl, ⟨X1, c1, rfl, hc1, h1⟩, fun i u hu => ?_⟩
  obtain rfl : i = 0 := by rcases i with _ | i; rfl; simp at hu
  rw [add_plain]
  exact heap_cell h (by simpa [KR] using hu)
 ·obtain rfl : p = l2 := by simpa using hj.symm
  refine ⟨[_], rfl, ⟨X2, c2, rfl, hc2, h2⟩, fun i u hu => ?_⟩
  obtain rfl : i = 0 := by rcases i with _ | i; rfl; simp at hu
  rw [add_plain, show (0 + 1) * KR.sz + 0 = 1 from rfl]
  exact heap_cell h (by simpa using hu)
 ·simp at hj
set_option maxHeartbeats 1000000 in
set_option maxRecDepth 100000 in
theorem turned_calls (A : Option Addr) (c : Nat) (l : List Int) (a : Nat) (w : World) (hl : Kd.C (Kd.int .i64) w A l.length l) (hc : l.length ≤ c) (ha : a ≤ l.length) (hb : l.length * 8 ≤ 140737488355328) :
  Calls Try.prog 47 #[.slice A l.length c, .int .i64 (a : Int)] w fun e w' => ∃ v, e = .returned v ∧ Kd.R (Kd.int .i64) 3 w' w.heap.size (fun _ => True) v (l.drop a ++ l.take a) ∧ Below w.heap.size w w' := by
 obtain ⟨X1, hX1, h1⟩ := from_reads hl hc ha
 obtain ⟨X2, hX2, h2⟩ := to_reads hl hc ha
 have HC : Aside0 (∀ W : World, W.heap[w.heap.size]? = some (.cells #[.slice X1 (l.length - a) (c - a), .slice X2 a c] 28 (0, 0)) → Below w.heap.size w W →
   Calls Try.prog 57 #[.slice (some ⟨w.heap.size, 0, none⟩) 2 2] W fun e w' => ∃ v, e = .returned v ∧ Kd.R (Kd.int .i64) 3 w' W.heap.size (fun _ => True) v (l.drop a ++ l.take a) ∧ Below W.heap.size W w') := ⟨fun W hW hb2 => by
  have h := concat_calls (some ⟨w.heap.size, 0, none⟩) 2 [l.drop a, l.take a] W (two_rows hW (Kd.C_below h1 hb2) (Kd.C_below h2 hb2) (by omega) (by omega)) (by simp [sumTo]; omega)
  simpa using h⟩
 have HB := Aside0.mk ((Below.refl w.heap.size w).alloc (Nat.le_refl _) (.cells #[.slice X1 (l.length - a) (c - a), .slice X2 a c] 28 (0, 0)))
 have HLD : Aside0 ((w.alloc (.cells #[.slice X1 (l.length - a) (c - a), .slice X2 a c] 28 (0, 0))).drew.heap[w.heap.size]? = some (.cells #[.slice X1 (l.length - a) (c - a), .slice X2 a c] 28 (0, 0))) := ⟨heap_last w _⟩
 have HLB : Aside0 (Below w.heap.size w (w.alloc (.cells #[.slice X1 (l.length - a) (c - a), .slice X2 a c] 28 (0, 0))).drew) := ⟨HB.out.drew⟩
 clear h1 h2 hl
 go_enter Try.func47, Try.ntmps47
 go_wp2_with fail
 refine start_ (n := 9) (S := fun w' => True) (ds := []) #[false, false, false, false, false, false, false, false, false] (by kernel_rfl) rfl rfl trivial (fun hHeld => ?_)
 refine pure_ (i := 0) (N := some 5) (v := ?_) (a' := ?_) #[true, false, false, false, false, false, false, false, false] rfl rfl (by kernel_rfl) (fun _ _ _ h => h) (Or.inl ⟨by rfl, ?_⟩) ?_ ?_
 rotate_left
 ·intro w'
  go_simp
  with_reducible rfl
 rotate_left
 ·simp only [Act.put, List.setIfInBounds_toArray, List.set_cons_zero, List.set_cons_succ, i64_w, i32_w]
  rfl
 refine pure_ (i := 1) (N := some 6) (v := ?_) (a' := ?_) #[true, true, false, false, false, false, false, false, false] rfl rfl (by kernel_rfl) (fun _ _ _ h => h) (Or.inl ⟨by rfl, ?_⟩) ?_ ?_
 rotate_left
 ·intro w'
  go_simp
  with_reducible rfl
 rotate_left
 ·simp only [Act.put, List.setIfInBounds_toArray, List.set_cons_zero, List.set_cons_succ, i64_w, i32_w]
  rfl
 refine pure_ (i := 2) (N := some 7) (v := ?_) (a' := ?_) #[true, true, true, false, false, false, false, false, false] rfl rfl (by kernel_rfl) (fun _ _ _ h => h) (Or.inl ⟨by rfl, ?_⟩) ?_ ?_
 rotate_left
 ·intro w'
  go_simp
  with_reducible rfl
 rotate_left
 ·simp only [Act.put, List.setIfInBounds_toArray, List.set_cons_zero, List.set_cons_succ, i64_w, i32_w]
  rfl
 refine pure_ (i := 3) (N := some 8) (v := ?_) (a' := ?_) #[true, true, true, true, false, false, false, false, false] rfl rfl (by kernel_rfl) (fun _ _ _ h => h) (Or.inl ⟨by rfl, ?_⟩) ?_ ?_
 rotate_left
 ·intro w'
  go_simp
  with_reducible rfl
 rotate_left
 ·simp only [Act.put, List.setIfInBounds_toArray, List.set_cons_zero, List.set_cons_succ, i64_w, i32_w]
  rfl
 refine pure_ (i := 4) (N := some 9) (v := ?_) (a' := ?_) #[true, true, true, true, true, false, false, false, false] rfl rfl (by kernel_rfl) (fun _ _ _ h => h) (Or.inl ⟨by rfl, ?_⟩) ?_ ?_
 rotate_left
 ·intro w'
  go_simp
  with_reducible rfl
 rotate_left
 ·simp only [Act.put, List.setIfInBounds_toArray, List.set_cons_zero, List.set_cons_succ, i64_w, i32_w]
  rfl
 refine pure_ (i := 5) (N := some 10) (v := ?_) (a' := ?_) #[true, true, true, true, true, true, false, false, false] rfl rfl (by kernel_rfl) (fun _ _ _ h => h) (Or.inl ⟨by rfl, ?_⟩) ?_ ?_
 rotate_left
 ·intro w'
  go_simp
  with_reducible rfl
 rotate_left
 ·simp only [Act.put, List.setIfInBounds_toArray, List.set_cons_zero, List.set_cons_succ, i64_w, i32_w]
  rfl
 refine one_ (i := 6) (N := some 11) #[true, true, true, true, true, true, true, false, false] rfl rfl (by kernel_rfl) (by decide) (fun K hK => ?_)
 refine value_ (w1 := ?_) (v := ?_) (by rfl) rfl ?_ ?_
 rotate_left 2
 ·go_simp
  constructor
  ·rfl
  ·rfl
 refine hK.out _ _ trivial (fun hHeld => ?_)
 clear hK K
 refine norm_ (a' := ?_) ?_ ?_
 rotate_left
 ·show Act.put _ (some 11) _ = _
  simp only [Act.put, List.setIfInBounds_toArray, List.set_cons_zero, List.set_cons_succ, i64_w, i32_w]
  rfl
 refine one_ (i := 7) (N := some 12) #[true, true, true, true, true, true, true, true, false] rfl rfl (by kernel_rfl) (by decide) (fun K hK => ?_)
 refine goes_ Try.func57 (by kernel_rfl) rfl #[.slice (some ⟨w.heap.size, 0, none⟩) 2 2] (by rfl) rfl rfl (by simp only [List.map_toArray, List.map_cons, List.map_nil]; rfl) ?_
 with_reducible refine (HC.out _ HLD.out HLB.out).mono ?_
 rintro e w3 ⟨v3, rfl, hR3, hb3⟩
 refine ⟨_, rfl, ?_⟩
 have HR3 := Aside0.mk hR3
 have HB3 := Aside0.mk hb3
 refine hK.out _ _ trivial (fun hHeld => ?_)
 clear hK K
 refine norm_ (a' := ?_) ?_ ?_
 rotate_left
 ·show Act.put _ (some 12) _ = _
  simp only [Act.put, List.setIfInBounds_toArray, List.set_cons_zero, List.set_cons_succ, i64_w, i32_w]
  rfl
 refine pure_ (i := 8) (N := some 4) (v := ?_) (a' := ?_) #[true, true, true, true, true, true, true, true, true] rfl rfl (by kernel_rfl) (fun _ _ _ h => h) (Or.inl ⟨by rfl, ?_⟩) ?_ ?_
 rotate_left
 ·intro w'
  go_simp
  with_reducible rfl
 rotate_left
 ·simp only [Act.put, List.setIfInBounds_toArray, List.set_cons_zero, List.set_cons_succ, i64_w, i32_w]
  rfl
 refine done_ (by kernel_rfl) ?_
 go_wp2_with fail
 go_ret
 have hz := HLB.out.size
 exact ⟨_, rfl, Kd.R_lower HR3.out hz, HLB.out.trans (HB3.out.mono hz)⟩
end Go.Proofs.Ytkkhhbegeboonaa.Rot
namespace Go.Proofs.Ytkkhhbegeboonaa.Rot
open Go.RowKit Go.Proofs.YtkkhhbegeboonaaW.PrintWords Go.Proofs.YtkkhhbegeboonaaW.PrintLast Go.Proofs.YtkkhhbegeboonaaW.PrintMore Go.Proofs.Ytkkhhbegeboonaa.Mem
set_option linter.unusedVariables false
set_option linter.unusedSimpArgs false
def leastTo (l : List Int) : Nat → Nat
 | 0 => 0
 | i + 1 => if gi l i < gi l (leastTo l i) then i else leastTo l i
def leastAt (l : List Int) : Nat := leastTo l l.length
theorem leastTo_le (l : List Int) (i : Nat) : leastTo l i ≤ i := by
 induction i with
 | zero => exact Nat.le_refl _
 | succ i ih => unfold leastTo; split <;> omega
theorem leastTo_lt (l : List Int) {i : Nat} (h : 0 < i) : leastTo l i < i := by
 induction i with
 | zero => omega
 | succ i ih =>
  unfold leastTo
  split
  ·omega
  ·have := leastTo_le l i; omega
def turnl (l : List Int) : List Int := l.drop (leastAt l) ++ l.take (leastAt l)
theorem turnl_length (l : List Int) : (turnl l).length = l.length := by
 have := leastTo_le l l.length
 unfold turnl leastAt
 simp; omega
def canonTo (r : List (List Int)) (i : Nat) : List (List Int) := (r.take i).map turnl ++ List.replicate (r.length - i) []
theorem canonTo_length (r : List (List Int)) {i : Nat} (h : i ≤ r.length) : (canonTo r i).length = r.length := by simp [canonTo]; omega
theorem canonTo_set {r : List (List Int)} {i : Nat} (h : i < r.length) : (canonTo r i).set i (turnl (gl r i)) = canonTo r (i + 1) := by
 unfold canonTo
 have e1 : ((r.take i).map turnl).length = i := by simp; omega
 rw [List.set_append_right _ _ (by omega), e1, Nat.sub_self, show r.length - i = (r.length - (i + 1)) + 1 by omega, List.replicate_succ, List.set_cons_zero, List.take_succ_eq_append_getElem h, List.map_append, List.append_assoc]
 simp [gl, List.getD_eq_getElem?_getD, h]
theorem canonTo_all (r : List (List Int)) : canonTo r r.length = r.map turnl := by simp [canonTo]
def LeastSays (r : List (List Int)) : Prop := ∀ (j : Nat) (A : Option Addr) (c : Nat) (W : World), j < r.length → Kd.C (Kd.int .i64) W A (gl r j).length (gl r j) → (gl r j).length ≤ c →
 Calls Try.prog 48 #[.slice A (gl r j).length c] W fun e w' => e = .returned (.int .i64 ((leastAt (gl r j) : Nat) : Int)) ∧ Below W.heap.size W w'
set_option maxHeartbeats 1000000 in
set_option maxRecDepth 100000 in
theorem canon_calls (A : Option Addr) (c : Nat) (r : List (List Int)) (w : World) (hr : Kd.C KR w A r.length r) (hn : r.length * 24 ≤ 140737488355328) (hb : ∀ j, j < r.length → (gl r j).length * 8 ≤ 140737488355328) (hls : LeastSays r) :
  Calls Try.prog 25 #[.slice A r.length c] w fun e w' => ∃ v, e = .returned v ∧ Kd.S KR 28 w' w.heap.size (fun _ => True) v (r.map turnl) ∧ Below w.heap.size w w' := by
 have HR := Aside0.mk hr
 have HL := Aside0.mk hls
 have HBD := Aside0.mk hb
 clear hr hls hb
 have mk1 := print_make_of (P := Try.prog) 26 28 (.slice none 0 0) 24 Try.underlying26 info_ints rfl (by decide) r.length (by omega)
 rw [made_nil] at mk1
 go_enter Try.func25, Try.ntmps25
 go_wp2_with fail
 clear mk1
 have HG := Aside0.mk (Rows2.start w r.length)
 have HB : Aside0 (Below w.heap.size w (w.alloc (.cells (Array.replicate r.length (Value.slice none 0 0)) 28 (0, 0)))) := ⟨(Below.refl _ _).alloc (Nat.le_refl _) _⟩
 rw [show List.replicate r.length [] = canonTo r 0 by simp [canonTo]] at HG
 generalize w.alloc (.cells (Array.replicate r.length (Value.slice none 0 0)) 28 (0, 0)) = w1 at HG HB ⊢
 obtain ⟨bo, hbo⟩ : ∃ bo, bo = w.heap.size := ⟨_, rfl⟩
 rw [← hbo] at HG ⊢
 have hbo2 : w.heap.size ≤ bo := by omega
 clear hbo
 go_loopw [11] (fun y wr => ∃ (i : Nat) (vs : List Value), y = .int .i64 (i : Int) ∧ i ≤ r.length ∧ Aside0 (Rows2 wr (bo + 1) bo vs (canonTo r i)) ∧ Aside0 (Below w.heap.size w wr)) (fun y _ => r.length - (intOf y).toNat)
 case atStart => exact ⟨0, _, rfl, by omega, HG, HB⟩
 case round =>
  clear HG HB
  obtain ⟨i, vs, rfl, hi, HG, HB⟩ := hrel
  by_cases hlt : i < r.length
  ·obtain ⟨ad, D, cD, eA, hx, hcD, hrow⟩ := row_at (Kd.C_below HR.out HB.out) hlt
   subst eA
   have HROW := Aside0.mk hrow
   have hbd := HBD.out i hlt
   have HLS := Aside0.mk (HL.out i D cD)
   have HST := Aside0.mk (canonTo_set hlt)
   have hcl := canonTo_length r hi
   have HCL := Aside0.mk hcl
   obtain ⟨row, hrw⟩ : ∃ row, row = gl r i := ⟨_, rfl⟩
   rw [← hrw] at hx hcD HROW hbd HLS HST
   have hbig := C_le HROW.out
   have hle : leastAt row ≤ row.length := leastTo_le row row.length
   clear hrow hrw hcl
   go_wp2_with fail
   refine (HLS.out wr hlt HROW.out hcD).mono ?_
   rintro e w2 ⟨rfl, hb2⟩
   have HB2 := Aside0.mk hb2
   clear hb2
   go_wp2_with fail
   refine (turned_calls D cD row (leastAt row) w2 (Kd.C_below HROW.out HB2.out) hcD hle hbd).mono ?_
   rintro e w3 ⟨v3, rfl, hR3, hb3⟩
   obtain ⟨A3, c3, hv3, _, _⟩ := Kd.R_reads hR3
   rw [show (row.drop (leastAt row) ++ row.take (leastAt row)).length = row.length from turnl_length row] at hv3
   subst hv3
   have hb13 : Below wr.heap.size wr w3 := HB2.out.trans (hb3.mono HB2.out.size)
   have ho3 := own_low (Kd.own_of_R hR3) HB2.out.size
   have HG3 : Aside0 (Rows2 (w3.setCell ⟨bo, i, none⟩ (.slice A3 row.length c3)) (bo + 1) bo (vs.set i (.slice A3 row.length c3)) (canonTo r (i + 1))) := ⟨by
    have h := HG.out.put hb13 (by rw [HCL.out]; exact hlt) (g' := turnl row) ho3
    rw [HST.out] at h
    exact h⟩
   have HB3 : Aside0 (Below w.heap.size w (w3.setCell ⟨bo, i, none⟩ (.slice A3 row.length c3))) := ⟨(HB.out.trans (hb13.mono HB.out.size)).setCell (p := ⟨bo, i, none⟩) hbo2 _⟩
   have hG3 := HG.out.below hb13
   have g1 := hG3.cell (j := i) (by rw [HCL.out]; exact hlt)
   have g2 := hG3.free i
   clear hR3 hb3 hb13 ho3 hG3 HG HB HB2
   go_wp2_with fail
   go_roundw
   case rel => exact ⟨i + 1, _, by go_num, by omega, HG3, HB3⟩
   case measure => simp [intOf]; omega
  ·obtain rfl : i = r.length := by omega
   have hz := HG.out.tells (base := w.heap.size) hbo2 (by omega) (by rw [canonTo_length r (Nat.le_refl _)]; omega)
   rw [canonTo_length r (Nat.le_refl _), canonTo_all] at hz
   have HZ := Aside0.mk hz
   clear hz
   go_wp2_with fail
   go_ret
   exact ⟨_, rfl, HZ.out, HB.out⟩
end Go.Proofs.Ytkkhhbegeboonaa.Rot
namespace Go.Proofs.Ytkkhhbegeboonaa.Mem
open Go.Maps
open Go.ChangeMaps (setBlock heap_setBlock_same heap_setBlock_other)
open Go.RowKit Go.Proofs.YtkkhhbegeboonaaW.PrintWords Go.Proofs.YtkkhhbegeboonaaW.PrintLast Go.Proofs.YtkkhhbegeboonaaW.PrintMore Go.WideMaps Go.MapKept
set_option linter.unusedVariables false
set_option linter.unusedSimpArgs false
def MapAt (P : Program) (k : TypeId) (w : World) (b s : Nat) (f : Value → Option Value) : Prop :=
 ∃ es clock, w.heap[b]? = some (.map es clock) ∧ Stamped es clock ∧ es.size ≤ s ∧ (∀ x ∈ es.toList, ∃ l, keyOf P k x.key = some l) ∧ (∀ x ∈ es.toList, f x.key = some x.val) ∧ ∀ kv v, f kv = some v → ∃ x ∈ es.toList, x.key = kv
section
variable {P : Program} {k : TypeId} {w : World} {b s : Nat} {f : Value → Option Value}
theorem MapAt.new (P : Program) (k : TypeId) (w : World) (c : Nat) : MapAt P k (w.alloc (.map #[] c)) w.heap.size 0 (fun _ => none) :=
 ⟨#[], c, heap_last w _, ⟨by simp, by simp, by simp⟩, Nat.le_refl _, by simp, by simp, by simp⟩
theorem MapAt.lt (h : MapAt P k w b s f) : b < w.heap.size := by
 obtain ⟨es, c, h1, _⟩ := h
 exact lt_of h1
theorem MapAt.move {w' : World} (h : MapAt P k w b s f) (hb : w'.heap[b]? = w.heap[b]?) : MapAt P k w' b s f := by
 obtain ⟨es, c, h1, h2⟩ := h
 exact ⟨es, c, hb.trans h1, h2⟩
theorem MapAt.frame {S : Nat → Prop} {w' : World} (h : MapAt P k w b s f) (hb : Frame S w w') (hs : ¬ S b) : MapAt P k w' b s f := h.move (hb.block b h.lt hs)
theorem MapAt.mono {s' : Nat} (h : MapAt P k w b s f) (hs : s ≤ s') : MapAt P k w b s' f := by
 obtain ⟨es, c, h1, h2, h3, h4⟩ := h
 exact ⟨es, c, h1, h2, Nat.le_trans h3 hs, h4⟩
theorem setBlock_frame {o : Obj} (hb : b < w.heap.size) : Frame (fun i => i = b) w (setBlock w b o) := by
 refine ⟨rfl, rfl, rfl, by simp [setBlock], fun i hi hne => ?_⟩
 unfold setBlock
 simp only
 rw [Array.getElem?_setIfInBounds, if_neg (fun e => hne e.symm)]
theorem MapAt.put {t e : TypeId} (K : Keyed P k) (ht : P.underlying t = some (.map k e)) (h : MapAt P k w b s f) (hs : s < maxLen) {key val : Value} {kl : Lit} (hkey : keyOf P k key = some kl) {f' : Value → Option Value} (hf1 : f' key = some val) (hf2 : ∀ q, q ≠ key → f' q = f q) :
  ∃ w', (Instr.mapUpdate t (.map (some b)) key val).run P w = .ok () w' ∧ MapAt P k w' b (s + 1) f' ∧ Frame (fun i => i = b) w w' := by
 obtain ⟨es, clock, hb, hst, hsz, hks, hin, hof⟩ := h
 rcases K.find w hkey es.toList hks with ⟨h1, h2⟩ | ⟨j, e0, h1, h2, h3⟩
 ·refine ⟨setBlock w b (.map (es.push ⟨key, val, clock⟩) (clock + 1)), ?_, ⟨es.push ⟨key, val, clock⟩, clock + 1, heap_setBlock_same hb _, stamped_push hst h2, by simp; omega, ?_, ?_, ?_⟩, setBlock_frame (lt_of hb)⟩
  ·simp [Instr.mapUpdate, run_underlying ht, MapKept.run_getObj_map hb, K.check w false hkey, h1, MapKept.run_setObj_map _ hb, Result.andThen, setBlock]
  ·intro x hx
   simp only [Array.toList_push, List.mem_append, List.mem_singleton] at hx
   rcases hx with hx | rfl
   ·exact hks x hx
   ·exact ⟨kl, hkey⟩
  ·intro x hx
   simp only [Array.toList_push, List.mem_append, List.mem_singleton] at hx
   rcases hx with hx | rfl
   ·rw [hf2 _ (h2 x hx)]; exact hin x hx
   ·exact hf1
  ·intro q v hq
   simp only [Array.toList_push, List.mem_append, List.mem_singleton]
   rcases Classical.em (q = key) with c | c
   ·exact ⟨_, .inr rfl, c.symm⟩
   ·rw [hf2 _ c] at hq
    obtain ⟨x, hx, e⟩ := hof q v hq
    exact ⟨x, .inl hx, e⟩
 ·have hj : es[j]? = some e0 := by simpa using h2
  have hjl : j < es.toList.length := (List.getElem?_eq_some_iff.1 h2).1
  have hkeyf : ∀ e', es[j]? = some e' → ({ e' with key := key, val := val } : MapEntry).key = e'.key := fun e' he' => by rw [hj] at he'; cases he'; exact h3.symm
  have hl : (es.modify j (fun e' => { e' with key := key, val := val })).toList = es.toList.set j { e0 with key := key, val := val } := by
   rw [Array.toList_modify, Go.ChangeMaps.modify_eq_set _ _ _ _ h2]
  have hnd : es.toList.Pairwise (fun x y => x.key ≠ y.key) := by
   have := hst.2.2
   rw [List.Nodup, List.pairwise_map] at this
   exact this
  refine ⟨setBlock w b (.map (es.modify j (fun e' => { e' with key := key, val := val })) clock), ?_, ⟨_, clock, heap_setBlock_same hb _, stamped_modify hst _ _ (fun _ _ => rfl) (fun e' _ he' => hkeyf e' he'), by simp; omega, ?_, ?_, ?_⟩, setBlock_frame (lt_of hb)⟩
  ·simp [Instr.mapUpdate, run_underlying ht, MapKept.run_getObj_map hb, K.check w false hkey, h1, hj, h3, K.stays w hkey, MapKept.run_setObj_map _ hb, Result.andThen, setBlock]
  ·intro x hx
   rw [hl] at hx
   rcases List.mem_or_eq_of_mem_set hx with hx | rfl
   ·exact hks x hx
   ·exact ⟨kl, hkey⟩
  ·intro x hx
   rw [hl] at hx
   obtain ⟨i, hi, e⟩ := List.getElem_of_mem hx
   rw [List.length_set] at hi
   rw [List.getElem_set] at e
   by_cases c : j = i
   ·rw [if_pos c] at e
    rw [← e]
    exact hf1
   ·rw [if_neg c] at e
    rw [hf2]
    ·exact hin x (by rw [← e]; exact List.getElem_mem hi)
    ·intro q
     have e0j : es.toList[j] = e0 := (List.getElem?_eq_some_iff.1 h2).2
     rcases Nat.lt_or_gt_of_ne c with g | g
     ·exact List.pairwise_iff_getElem.1 hnd j i hjl hi g (by rw [e0j, e, h3, q])
     ·exact List.pairwise_iff_getElem.1 hnd i j hi hjl g (by rw [e0j, e, h3, q])
  ·intro q v hq
   rw [hl]
   rcases Classical.em (q = key) with c | c
   ·exact ⟨{ e0 with key := key, val := val }, List.mem_iff_getElem.2 ⟨j, by rw [List.length_set]; exact hjl, by simp⟩, c.symm⟩
   ·rw [hf2 _ c] at hq
    obtain ⟨x, hx, e⟩ := hof q v hq
    obtain ⟨i, hi, ex⟩ := List.getElem_of_mem hx
    have hij : j ≠ i := by
     rintro rfl
     have e0j : es.toList[j] = e0 := (List.getElem?_eq_some_iff.1 h2).2
     rw [e0j] at ex
     exact c (by rw [← e, ← ex, h3])
    exact ⟨x, List.mem_iff_getElem.2 ⟨i, by rw [List.length_set]; exact hi, by rw [List.getElem_set, if_neg hij]; exact ex⟩, e⟩
theorem MapAt.ask {t e : TypeId} (K : Keyed P k) (ht : P.underlying t = some (.map k e)) (h : MapAt P k w b s f) {z : Value} (hz : (zeroValue e).run P w = .ok z w) {key : Value} {kl : Lit} (hkey : keyOf P k key = some kl) :
  (Instr.lookup t (.map (some b)) key true).run P w = .ok (match f key with | some v => .tuple #[v, .bool true] | none => .tuple #[z, .bool false]) w := by
 obtain ⟨es, clock, hb, hst, hsz, hks, hin, hof⟩ := h
 rcases K.find w hkey es.toList hks with ⟨h1, h2⟩ | ⟨j, e0, h1, h2, h3⟩
 ·have hn : f key = none := by
   cases e : f key with
   | none => rfl
   | some v =>
    obtain ⟨x, hx, q⟩ := hof key v e
    exact absurd q (h2 x hx)
  rw [hn]
  simp [Instr.lookup, run_underlying ht, MapKept.run_getObj_map hb, K.check w _ hkey, h1, hz, Result.andThen]
 ·have hv := hin e0 (List.mem_of_getElem? h2)
  rw [h3] at hv
  rw [hv]
  simp [Instr.lookup, run_underlying ht, MapKept.run_getObj_map hb, K.check w _ hkey, h1, Result.andThen]
theorem MapAt.get {t e : TypeId} (K : Keyed P k) (ht : P.underlying t = some (.map k e)) (h : MapAt P k w b s f) {z : Value} (hz : (zeroValue e).run P w = .ok z w) {key : Value} {kl : Lit} (hkey : keyOf P k key = some kl) :
  (Instr.lookup t (.map (some b)) key false).run P w = .ok ((f key).getD z) w := by
 obtain ⟨es, clock, hb, hst, hsz, hks, hin, hof⟩ := h
 rcases K.find w hkey es.toList hks with ⟨h1, h2⟩ | ⟨j, e0, h1, h2, h3⟩
 ·have hn : f key = none := by
   cases e : f key with
   | none => rfl
   | some v =>
    obtain ⟨x, hx, q⟩ := hof key v e
    exact absurd q (h2 x hx)
  rw [hn]
  simp [Instr.lookup, run_underlying ht, MapKept.run_getObj_map hb, K.check w _ hkey, h1, hz, Result.andThen]
 ·have hv := hin e0 (List.mem_of_getElem? h2)
  rw [h3] at hv
  rw [hv]
  simp [Instr.lookup, run_underlying ht, MapKept.run_getObj_map hb, K.check w _ hkey, h1, Result.andThen]
end
end Go.Proofs.Ytkkhhbegeboonaa.Mem
namespace Go.Proofs.Ytkkhhbegeboonaa.Rot
open Go.RowKit Go.Proofs.YtkkhhbegeboonaaW.PrintWords Go.Proofs.YtkkhhbegeboonaaW.PrintLast Go.Proofs.Ytkkhhbegeboonaa.Mem Go.Maps Go.WideMaps
set_option linter.unusedVariables false
set_option linter.unusedSimpArgs false
def halfTo (es : List (Int × Int)) : Nat → Int × Int → Option Int
 | 0 => fun _ => none
 | i + 1 => fun q => if q = ((pe es i).2, (pe es i).1) then some ((2 * i + 1 : Nat) : Int) else if q = ((pe es i).1, (pe es i).2) then some ((2 * i : Nat) : Int) else halfTo es i q
def halfOf (es : List (Int × Int)) : Int × Int → Option Int := halfTo es es.length
def walkRow (half : Int × Int → Option Int) (v : Int) : List Int → List Int → Except Int (List Int)
 | [], o => .ok o
 | u :: t, o => match half (v, u) with
  | none => .error 111
  | some h => if h ∈ o then .error 112 else walkRow half v t (o ++ [h])
def fromAfter (ds : List Int) (v : Nat) (row : List Int) (go : List Int → Except (Int × Int) (List (List Int))) : Except Int (List Int) → Except (Int × Int) (List (List Int))
 | .error e => .error (v, e)
 | .ok x => if (row.length : Int) = gi ds v then go x else .error (v, 113)
def fromRows (half : Int × Int → Option Int) (ds : List Int) : Nat → List (List Int) → List (List Int) → Except (Int × Int) (List (List Int))
 | _, [], o => .ok o
 | v, row :: t, o => fromAfter ds v row (fun x => fromRows half ds (v + 1) t (o ++ [x])) (walkRow half v row [])
theorem fromRows_cons (half : Int × Int → Option Int) (ds : List Int) (v : Nat) (row : List Int) (t o : List (List Int)) : fromRows half ds v (row :: t) o = fromAfter ds v row (fun x => fromRows half ds (v + 1) t (o ++ [x])) (walkRow half v row []) := rfl
theorem fromAfter_ok (ds : List Int) (v : Nat) (row : List Int) (go : List Int → Except (Int × Int) (List (List Int))) (x : List Int) : fromAfter ds v row go (.ok x) = if (row.length : Int) = gi ds v then go x else .error ((v : Int), 113) := rfl
theorem walkRow_none {half : Int × Int → Option Int} {v u : Int} {t o : List Int} (h : half (v, u) = none) : walkRow half v (u :: t) o = .error 111 := by simp [walkRow, h]
theorem walkRow_twice {half : Int × Int → Option Int} {v u h : Int} {t o : List Int} (hh : half (v, u) = some h) (ho : h ∈ o) : walkRow half v (u :: t) o = .error 112 := by simp [walkRow, hh, ho]
theorem walkRow_on {half : Int × Int → Option Int} {v u h : Int} {t o : List Int} (hh : half (v, u) = some h) (ho : h ∉ o) : walkRow half v (u :: t) o = walkRow half v t (o ++ [h]) := by simp [walkRow, hh, ho]
def fill (n : Nat) (o : List (List Int)) (x : List Int) : List (List Int) := (List.range n).map fun u => if u < o.length then gl o u else if u = o.length then x else []
theorem fill_length (n : Nat) (o : List (List Int)) (x : List Int) : (fill n o x).length = n := by simp [fill]
theorem gl_fill {n u : Nat} {o : List (List Int)} {x : List Int} (h : u < n) : gl (fill n o x) u = if u < o.length then gl o u else if u = o.length then x else [] := by
 unfold fill gl
 simp [List.getD_eq_getElem?_getD, h]
theorem fill_set {n : Nat} {o : List (List Int)} {x : List Int} (h : Int) (ho : o.length < n) : (fill n o x).set o.length (x ++ [h]) = fill n o (x ++ [h]) := by
 refine gl_eq (by simp [fill]) fun u hu => ?_
 rw [List.length_set, fill_length] at hu
 rw [gl_set, fill_length, gl_fill hu, gl_fill hu]
 by_cases e : o.length = u
 ·subst e
  rw [if_pos ⟨rfl, hu⟩, if_neg (Nat.lt_irrefl _), if_pos rfl]
 ·rw [if_neg (fun q => e q.1)]
  by_cases c : u < o.length
  ·rw [if_pos c, if_pos c]
  ·rw [if_neg c, if_neg c, if_neg (fun q => e q.symm), if_neg (fun q => e q.symm)]
theorem fill_next {n : Nat} {o : List (List Int)} {x : List Int} : fill n (o ++ [x]) [] = fill n o x := by
 refine gl_eq (by simp [fill]) fun u hu => ?_
 rw [fill_length] at hu
 rw [gl_fill hu, gl_fill hu, List.length_append, List.length_singleton]
 rcases Nat.lt_trichotomy u o.length with c | c | c
 ·rw [if_pos (by omega), if_pos c]
  unfold gl
  rw [List.getD_eq_getElem?_getD, List.getD_eq_getElem?_getD, List.getElem?_append_left c]
 ·subst c
  rw [if_pos (by omega), if_neg (by omega), if_pos rfl]
  unfold gl
  simp [List.getD_eq_getElem?_getD]
 ·rw [if_neg (show ¬ u < o.length + 1 by omega), if_neg (show ¬ u < o.length by omega), if_neg (show ¬ u = o.length by omega), ite_self]
theorem fill_all {n : Nat} {o : List (List Int)} (h : o.length = n) : fill n o [] = o := by
 refine gl_eq (by rw [fill_length, h]) fun u hu => ?_
 rw [fill_length] at hu
 rw [gl_fill hu, if_pos (by omega)]
theorem fill_none (n : Nat) : fill n [] [] = List.replicate n [] := by
 refine gl_eq (by simp [fill]) fun u hu => ?_
 rw [fill_length] at hu
 rw [gl_fill hu, gl_nil, if_neg (by simp)]
 by_cases g : u = ([] : List (List Int)).length
 ·rw [if_pos g]
 ·rw [if_neg g]
theorem keyPair : ArrKey Try.prog 69 3 2 := ⟨by kernel_rfl, by kernel_rfl, by kernel_rfl, by kernel_rfl⟩
theorem lawPair : Keyed Try.prog 69 := Keyed.of_law keyPair.law
theorem lawInt : Keyed Try.prog 3 := int_keyed Try.underlying3
def InI (x : Int) : Prop := -9223372036854775808 ≤ x ∧ x ≤ 9223372036854775807
theorem InI.wf {x : Int} (h : InI x) : (Lit.int .i64 x).wf = true := by
 obtain ⟨a, b⟩ := h
 have e1 : IntKind.i64.min = -9223372036854775808 := by decide
 have e2 : IntKind.i64.max = 9223372036854775807 := by decide
 simp [Lit.wf, e1, e2, a, b]
theorem key_pair {x y : Int} (hx : InI x) (hy : InI y) : ∃ l, keyOf Try.prog 69 (.agg #[.int .i64 x, .int .i64 y]) = some l :=
 ⟨_, keyOf_pair keyPair Try.underlying3 ⟨Try.prog.types.size - 1, by kernel_rfl⟩ hx.wf hy.wf⟩
theorem key_int {x : Int} (hx : InI x) : ∃ l, keyOf Try.prog 3 (.int .i64 x) = some l := ⟨_, keyOf_int_mk Try.underlying3 hx.wf⟩
def MapH (w : World) (b s : Nat) (m : Int × Int → Option Int) : Prop := ∃ f, MapAt Try.prog 69 w b s f ∧ ∀ x y, f (.agg #[.int .i64 x, .int .i64 y]) = (m (x, y)).map (Value.int .i64)
def MapS (w : World) (b s : Nat) (o : List Int) : Prop := ∃ f, MapAt Try.prog 3 w b s f ∧ ∀ x, f (.int .i64 x) = if x ∈ o then some (.bool true) else none
theorem MapH.new (w : World) (c : Nat) : MapH (w.alloc (.map #[] c)) w.heap.size 0 (fun _ => none) := ⟨_, MapAt.new _ _ _ _, fun _ _ => rfl⟩
theorem MapS.new (w : World) (c : Nat) : MapS (w.alloc (.map #[] c)) w.heap.size 0 [] := ⟨_, MapAt.new _ _ _ _, fun _ => by simp⟩
theorem MapH.move {w w' : World} {b s : Nat} {m : Int × Int → Option Int} (h : MapH w b s m) (hb : w'.heap[b]? = w.heap[b]?) : MapH w' b s m := by
 obtain ⟨f, h1, h2⟩ := h
 exact ⟨f, h1.move hb, h2⟩
theorem MapS.move {w w' : World} {b s : Nat} {o : List Int} (h : MapS w b s o) (hb : w'.heap[b]? = w.heap[b]?) : MapS w' b s o := by
 obtain ⟨f, h1, h2⟩ := h
 exact ⟨f, h1.move hb, h2⟩
theorem MapH.lt {w : World} {b s : Nat} {m : Int × Int → Option Int} (h : MapH w b s m) : b < w.heap.size := by
 obtain ⟨f, h1, _⟩ := h
 exact h1.lt
theorem MapS.lt {w : World} {b s : Nat} {o : List Int} (h : MapS w b s o) : b < w.heap.size := by
 obtain ⟨f, h1, _⟩ := h
 exact h1.lt
theorem MapH.put {w : World} {b s : Nat} {m : Int × Int → Option Int} (h : MapH w b s m) (hs : s ≤ 9000000) {x y : Int} (hx : InI x) (hy : InI y) (z : Int) :
  ∃ w', (Instr.mapUpdate 68 (.map (some b)) (.agg #[.int .i64 x, .int .i64 y]) (.int .i64 z)).run Try.prog w = .ok () w' ∧ MapH w' b (s + 1) (fun q => if q = (x, y) then some z else m q) ∧ Mem.Frame (fun i => i = b) w w' := by
 obtain ⟨f, h1, h2⟩ := h
 obtain ⟨l, hl⟩ := key_pair hx hy
 classical
 obtain ⟨w', e1, e2, e3⟩ := h1.put (t := 68) (e := 3) lawPair (by kernel_rfl) (by unfold maxLen; omega) (val := .int .i64 z) hl (f' := fun q => if q = .agg #[.int .i64 x, .int .i64 y] then some (.int .i64 z) else f q) (if_pos rfl) (fun q hq => if_neg hq)
 refine ⟨w', e1, ⟨_, e2, fun p q => ?_⟩, e3⟩
 try simp only
 by_cases c : (p, q) = (x, y)
 ·rw [if_pos c]
  injection c with c1 c2
  subst c1; subst c2
  rw [if_pos rfl]; rfl
 ·rw [if_neg c, if_neg (fun e => c (by simpa using e))]
  exact h2 p q
theorem MapS.put {w : World} {b s : Nat} {o : List Int} (h : MapS w b s o) (hs : s ≤ 900000000000000000) {x : Int} (hx : InI x) :
  ∃ w', (Instr.mapUpdate 71 (.map (some b)) (.int .i64 x) (.bool true)).run Try.prog w = .ok () w' ∧ MapS w' b (s + 1) (o ++ [x]) ∧ Mem.Frame (fun i => i = b) w w' := by
 obtain ⟨f, h1, h2⟩ := h
 obtain ⟨l, hl⟩ := key_int hx
 classical
 obtain ⟨w', e1, e2, e3⟩ := h1.put (t := 71) (e := 4) lawInt (by kernel_rfl) (by unfold maxLen; omega) (val := .bool true) hl (f' := fun q => if q = .int .i64 x then some (.bool true) else f q) (if_pos rfl) (fun q hq => if_neg hq)
 refine ⟨w', e1, ⟨_, e2, fun p => ?_⟩, e3⟩
 try simp only
 by_cases c : p = x
 ·subst c
  rw [if_pos rfl, if_pos (by simp)]
 ·rw [if_neg (fun e => c (by simpa using e)), h2]
  simp [c]
theorem MapH.ask {w : World} {b s : Nat} {m : Int × Int → Option Int} (h : MapH w b s m) {x y : Int} (hx : InI x) (hy : InI y) :
  (Instr.lookup 68 (.map (some b)) (.agg #[.int .i64 x, .int .i64 y]) true).run Try.prog w = .ok (match m (x, y) with | some z => .tuple #[.int .i64 z, .bool true] | none => .tuple #[.int .i64 0, .bool false]) w := by
 obtain ⟨f, h1, h2⟩ := h
 obtain ⟨l, hl⟩ := key_pair hx hy
 have := h1.ask (t := 68) (e := 3) lawPair (by kernel_rfl) (z := .int .i64 0) (by kernel_rfl) hl
 rw [this, h2]
 cases m (x, y) <;> rfl
theorem MapS.get {w : World} {b s : Nat} {o : List Int} (h : MapS w b s o) {x : Int} (hx : InI x) :
  (Instr.lookup 71 (.map (some b)) (.int .i64 x) false).run Try.prog w = .ok (.bool (decide (x ∈ o))) w := by
 obtain ⟨f, h1, h2⟩ := h
 obtain ⟨l, hl⟩ := key_int hx
 have := h1.get (t := 71) (e := 4) lawInt (by kernel_rfl) (z := .bool false) (by kernel_rfl) hl
 rw [this, h2]
 by_cases c : x ∈ o
 ·rw [if_pos c, decide_eq_true c]; rfl
 ·rw [if_neg c, decide_eq_false c]; rfl
end Go.Proofs.Ytkkhhbegeboonaa.Rot
namespace Go.Proofs.Ytkkhhbegeboonaa.Rot
open Go.RowKit Go.Proofs.YtkkhhbegeboonaaW.PrintWords Go.Proofs.YtkkhhbegeboonaaW.PrintLast Go.Proofs.YtkkhhbegeboonaaW.PrintMore Go.Proofs.Ytkkhhbegeboonaa.Mem
set_option linter.unusedVariables false
set_option linter.unusedSimpArgs false
theorem must_yes (v e : Int) (w : World) : Calls Try.prog 43 #[.bool true, .int .i64 v, .int .i64 e] w fun x w' => x = .returned (.tuple #[]) ∧ w = w' := by
 go_enter Try.func43, Try.ntmps43
 go_wp2
 go_end0
 exact ⟨rfl, rfl⟩
theorem must_no (v e : Int) (w : World) : Calls Try.prog 43 #[.bool false, .int .i64 v, .int .i64 e] w fun x w' => x = .panicked [{ v := .iface 80 (.agg #[.int .i64 v, .int .i64 e]), recovered := false }] ∧ w = w' := by
 go_enter Try.func43, Try.ntmps43
 go_wp2
 exact ⟨rfl, rfl, rfl⟩
def fault (v e : Int) : Value := .iface 80 (.agg #[.int .i64 v, .int .i64 e])
theorem assert_fault (v e : Int) (w : World) : (Instr.typeAssert (.iface 80 (.agg #[.int .i64 v, .int .i64 e])) 20 80 true).run Try.prog w = .ok (.tuple #[.agg #[.int .i64 v, .int .i64 e], .bool true]) w := by kernel_rfl
theorem wp_act {P : Program} {c : Code} {Q : Exit → Act → World → Prop} {a a' : Act} {w : World} (h : a = a') (hw : c.wp P Q a' w) : c.wp P Q a w := h ▸ hw
def Caught (p q : Nat) (v e : Int) (older : List PanicEntry) (w : World) (z : Ending) (u' : FrameMode) (w' : World) : Prop :=
 z = .returned (.tuple #[]) ∧ u' = .panicking ({ v := fault v e, recovered := true } :: older) ∧ w'.heap[p]? = some (.cells #[.int .i64 v] 3 (0, 0)) ∧ w'.heap[q]? = some (.cells #[.int .i64 e] 29 (0, 0)) ∧ Mem.Frame (fun k => k = p ∨ k = q) w w'
set_option maxHeartbeats 1000000 in
set_option maxRecDepth 100000 in
theorem catch_fault (p q : Nat) (v e x y : Int) (older : List PanicEntry) (w : World) (hpq : p ≠ q) (hp : w.heap[p]? = some (.cells #[.int .i64 x] 3 (0, 0))) (hq : w.heap[q]? = some (.cells #[.int .i64 y] 29 (0, 0))) :
  CallsD Try.prog 55 #[.pointer (some ⟨p, 0, none⟩), .pointer (some ⟨q, 0, none⟩)] (.panicking ({ v := fault v e, recovered := false } :: older)) w (Caught p q v e older w) := by
 have HP := Aside0.mk hp
 have HQ0 := Aside0.mk hq
 have c1 : w.cell? ⟨p, 0, none⟩ = some (.int .i64 x) := heap_cell hp rfl
 have c2 : w.cell? ⟨q, 0, none⟩ = some (.int .i64 y) := heap_cell hq rfl
 have f1 : w.frozen? ⟨p, 0, none⟩ = false := heap_free hp 0
 have f2 : w.frozen? ⟨q, 0, none⟩ = false := heap_free hq 0
 clear hp hq
 unfold fault
 refine callsD_of_wpS Try.func55 rfl fun c₀ cs hu => ?_
 apply wpS_seq
 apply wpS_region
 simp [wpOpsS, go_sem, recoverD, hu, Try.ntmps55, Exit.thenS]
 refine wpS_of_wp ?_
 clear hu
 let Q : Exit → Act → World → Prop := fun z a' w' => bodyPostS Try.prog Try.f55 c₀ cs (Caught p q v e older w) z a' ({ c₀ with mode := .panicking ({ v := fault v e, recovered := true } :: older) } :: cs) w'
 refine wp_act (Q := Q) (a' := ⟨#[.pointer (some ⟨p, 0, none⟩), .pointer (some ⟨q, 0, none⟩), .iface 80 (.agg #[.int .i64 v, .int .i64 e]), undef, undef, .iface 80 (.agg #[.int .i64 v, .int .i64 e]), undef, undef, undef, undef, undef, undef, undef, undef, undef, undef, undef, undef, undef, undef], []⟩) (by kernel_rfl) ?_
 have hta := assert_fault v e
 go_wp2_with fail
 clear hta c1 c2 f1 f2
 have HF1 : Aside0 (Mem.Frame (fun k => k = p ∨ k = q) w (w.alloc (.cells #[.int .i64 v, .int .i64 e] 80))) := ⟨(Mem.Frame.refl _ _).alloc _⟩
 have HP1 := Aside0.mk (heap_old HP.out (.cells #[.int .i64 v, .int .i64 e] 80))
 have HQ1 := Aside0.mk (heap_old HQ0.out (.cells #[.int .i64 v, .int .i64 e] 80))
 have HB1 := Aside0.mk (heap_last w (.cells #[.int .i64 v, .int .i64 e] 80))
 have hlp : p < w.heap.size := lt_of HP.out
 have hlq : q < w.heap.size := lt_of HQ0.out
 obtain ⟨b, hb⟩ : ∃ b, b = w.heap.size := ⟨_, rfl⟩
 rw [← hb] at hlp hlq HB1 ⊢
 clear hb
 generalize w.alloc (.cells #[.int .i64 v, .int .i64 e] 80) = w1 at HF1 HP1 HQ1 HB1 ⊢
 have c1 : w1.cell? ⟨p, 0, none⟩ = some (.int .i64 x) := heap_cell HP1.out rfl
 have c2 : w1.cell? ⟨q, 0, none⟩ = some (.int .i64 y) := heap_cell HQ1.out rfl
 have f1 : w1.frozen? ⟨p, 0, none⟩ = false := heap_free HP1.out 0
 have f2 : w1.frozen? ⟨q, 0, none⟩ = false := heap_free HQ1.out 0
 have d1 : w1.cell? ⟨b, 0, none⟩ = some (.int .i64 v) := heap_cell HB1.out rfl
 have d2 : w1.cell? ⟨b, 1, none⟩ = some (.int .i64 e) := heap_cell HB1.out rfl
 refine start_ (n := 6) (S := fun w' => w'.cell? ⟨b, 0, none⟩ = some (.int .i64 v) ∧ w'.cell? ⟨b, 1, none⟩ = some (.int .i64 e)) (ds := [5]) #[false, false, false, false, false, false] (by kernel_rfl) rfl rfl ⟨d1, d2⟩ (fun hHeld => ?_)
 refine pure_ (i := 0) (N := some 16) (v := ?_) (a' := ?_) #[true, false, false, false, false, false] rfl rfl (by kernel_rfl) (fun _ _ _ h => h) (Or.inl ⟨by rfl, ?_⟩) ?_ ?_
 rotate_left
 ·intro w'
  go_simp
  with_reducible rfl
 rotate_left
 ·simp only [Act.put, List.setIfInBounds_toArray, List.set_cons_zero, List.set_cons_succ, i64_w, i32_w]
  rfl
 refine pure_ (i := 2) (N := some 18) (v := ?_) (a' := ?_) #[true, false, true, false, false, false] rfl rfl (by kernel_rfl) (fun _ _ _ h => h) (Or.inl ⟨by rfl, ?_⟩) ?_ ?_
 rotate_left
 ·intro w'
  go_simp
  with_reducible rfl
 rotate_left
 ·simp only [Act.put, List.setIfInBounds_toArray, List.set_cons_zero, List.set_cons_succ, i64_w, i32_w]
  rfl
 refine take_ (i := 1) (N := some 17) (v := ?_) (a' := ?_) #[true, true, true, false, false, false] rfl rfl (by kernel_rfl) (fun _ _ _ h => h) (Or.inl ⟨by rfl, ?_⟩) hHeld ?_ ?_
 rotate_left
 ·rintro w' ⟨s0, s1⟩
  go_simp
  with_reducible rfl
 rotate_left
 ·simp only [Act.put, List.setIfInBounds_toArray, List.set_cons_zero, List.set_cons_succ, i64_w, i32_w]
  rfl
 refine take_ (i := 3) (N := some 19) (v := ?_) (a' := ?_) #[true, true, true, true, false, false] rfl rfl (by kernel_rfl) (fun _ _ _ h => h) (Or.inl ⟨by rfl, ?_⟩) hHeld ?_ ?_
 rotate_left
 ·rintro w' ⟨s0, s1⟩
  go_simp
  with_reducible rfl
 rotate_left
 ·simp only [Act.put, List.setIfInBounds_toArray, List.set_cons_zero, List.set_cons_succ, i64_w, i32_w]
  rfl
 refine one_ (i := 4) (N := none) #[true, true, true, true, true, false] rfl rfl (by kernel_rfl) (by decide) (fun K hK => ?_)
 obtain ⟨e1, e2⟩ := hHeld
 refine skip_ (w1 := ?_) (by rfl) rfl ?_ ?_
 rotate_left
 ·go_simp
  rfl
 refine hK.out _ _ ⟨cell_ne e1 _ (show b ≠ p by omega), cell_ne e2 _ (show b ≠ p by omega)⟩ (fun hHeld => ?_)
 clear hK K
 refine last_ (i := 5) (N := none) #[true, true, true, true, true, true] rfl rfl (by kernel_rfl) (by decide) (fun K hK => ?_)
 refine skip_ (w1 := ?_) (by rfl) rfl ?_ ?_
 rotate_left
 ·go_simp
  rfl
 refine hK.out _ _ ?_
 clear hK K
 refine done_ (by kernel_rfl) ?_
 go_wp2_with fail
 have g1 := heap_ne (b := q) (i := 0) (v := .int .i64 e) (heap_set (i := 0) HP1.out (.int .i64 v)) hpq
 have g2 := heap_set (i := 0) (heap_ne (b := p) (i := 0) (v := .int .i64 v) HQ1.out (Ne.symm hpq)) (.int .i64 e)
 have g3 := ((HF1.out.setCell (p := ⟨p, 0, none⟩) (.inl rfl) (.int .i64 v)).setCell (p := ⟨q, 0, none⟩) (.inr rfl) (.int .i64 e)).drew
 exact ⟨rfl, _, rfl, .tuple #[], by simp [results, Try.results55], rfl, rfl, g1, g2, g3⟩
theorem catch_idle (p q : Nat) (w : World) :
  CallsD Try.prog 55 #[.pointer (some ⟨p, 0, none⟩), .pointer (some ⟨q, 0, none⟩)] .returning w fun z u' w' => z = .returned (.tuple #[]) ∧ u' = .returning ∧ w = w' := by
 refine callsD_of_wpS Try.func55 rfl fun c₀ cs hu => ?_
 apply wpS_seq
 apply wpS_region
 simp [wpOpsS, go_sem, recoverD, hu, Try.ntmps55, Exit.thenS]
 refine wpS_of_wp ?_
 let Q : Exit → Act → World → Prop := fun z a' w' => bodyPostS Try.prog Try.f55 c₀ cs (fun z u' w' => z = .returned (.tuple #[]) ∧ u' = .returning ∧ w = w') z a' (c₀ :: cs) w'
 have HU := Aside0.mk hu
 clear hu
 refine wp_act (Q := Q) (a' := ⟨#[.pointer (some ⟨p, 0, none⟩), .pointer (some ⟨q, 0, none⟩), .nilIface, undef, undef, .nilIface, undef, undef, undef, undef, undef, undef, undef, undef, undef, undef, undef, undef, undef, undef], []⟩) (by kernel_rfl) ?_
 go_wp2_with fail
 refine ⟨rfl, .returning, ?_, .tuple #[], by simp [results, Try.results55], rfl, rfl, rfl⟩
 rw [← HU.out]
def wCaught (w : World) : World := (w.alloc (.cells #[.int .i64 0] 3 (0, 0))).alloc (.cells #[.int .i64 0] 29 (0, 0))
def Two (w w2 w' : World) : Prop := Mem.Frame (fun k => k = w.heap.size ∨ k = w.heap.size + 1) w2 w'
set_option maxHeartbeats 1000000 in
set_option maxRecDepth 100000 in
theorem caught_ok (k : FuncId) (caps : Array Value) (w : World) (G : World → Prop) (hk : ∀ W, (callFunc k caps).run Try.prog W = .ok (.enter k caps) W) (h : Calls Try.prog k caps (wCaught w) fun z w2 => z = .returned (.tuple #[]) ∧ G w2)
  (hp : ∀ w2, G w2 → w2.heap[w.heap.size]? = some (.cells #[.int .i64 0] 3 (0, 0)) ∧ w2.heap[w.heap.size + 1]? = some (.cells #[.int .i64 0] 29 (0, 0))) :
  Calls Try.prog 34 #[.func (.func k) #[] caps] w fun z w' => z = .returned (.tuple #[.int .i64 0, .int .i64 0]) ∧ ∃ w2, G w2 ∧ Two w w2 w' := by
 have hmf : ∀ (fn : Fn) (first cap : Array Value) (w : World), (Instr.makeFunc fn first cap).run Try.prog w = .ok (.func fn first cap) w := fun _ _ _ _ => rfl
 have H := Aside0.mk h
 have HP := Aside0.mk hp
 clear h hp
 go_enter_defers Try.func34, Try.ntmps34
 go_wp2_with fail
 refine (H.out).mono ?_
 rintro z w2 ⟨rfl, hg⟩
 obtain ⟨g1, g2⟩ := HP.out w2 hg
 have HG := Aside0.mk hg
 have G1 := Aside0.mk g1
 have G2 := Aside0.mk g2
 clear H HP hg
 have c1 : w2.cell? ⟨w.heap.size, 0, none⟩ = some (.int .i64 0) := heap_cell g1 rfl
 have c2 : w2.cell? ⟨w.heap.size + 1, 0, none⟩ = some (.int .i64 0) := heap_cell g2 rfl
 have f1 : w2.frozen? ⟨w.heap.size, 0, none⟩ = false := heap_free g1 0
 have f2 : w2.frozen? ⟨w.heap.size + 1, 0, none⟩ = false := heap_free g2 0
 clear g1 g2
 go_wp2_with fail
 have n1 := heap_set (i := 0) (heap_ne (b := w.heap.size) (i := 0) (v := .int .i64 0) G2.out (by omega)) (.int .i64 0)
 have n2 := heap_ne (b := w.heap.size + 1) (i := 0) (v := .int .i64 0) (heap_set (i := 0) G1.out (.int .i64 0)) (by omega)
 have n3 : Two w w2 ((w2.setCell ⟨w.heap.size, 0, none⟩ (.int .i64 0)).setCell ⟨w.heap.size + 1, 0, none⟩ (.int .i64 0)) := ((Mem.Frame.refl _ w2).setCell (p := ⟨w.heap.size, 0, none⟩) (.inl rfl) (.int .i64 0)).setCell (p := ⟨w.heap.size + 1, 0, none⟩) (.inr rfl) (.int .i64 0)
 generalize (w2.setCell ⟨w.heap.size, 0, none⟩ (.int .i64 0)).setCell ⟨w.heap.size + 1, 0, none⟩ (.int .i64 0) = w3 at n1 n2 n3 ⊢
 refine leaves_cons (f := 55) (args := #[.pointer (some ⟨w.heap.size, 0, none⟩), .pointer (some ⟨w.heap.size + 1, 0, none⟩)]) (by simp) (by simp [go_sem]) ?_
 refine (catch_idle _ _ _).mono ?_
 rintro e u' w'' ⟨rfl, rfl, rfl⟩
 have m1 : w3.cell? ⟨w.heap.size, 0, none⟩ = some (.int .i64 0) := heap_cell n2 rfl
 have m2 : w3.cell? ⟨w.heap.size + 1, 0, none⟩ = some (.int .i64 0) := heap_cell n1 rfl
 refine ⟨.tuple #[.int .i64 0, .int .i64 0], by simp [results, Try.results34, go_sem, m1, m2], rfl, w2, HG.out, n3⟩
set_option maxHeartbeats 1000000 in
set_option maxRecDepth 100000 in
theorem caught_fault (k : FuncId) (caps : Array Value) (w : World) (v e : Int) (G : World → Prop) (hk : ∀ W, (callFunc k caps).run Try.prog W = .ok (.enter k caps) W) (h : Calls Try.prog k caps (wCaught w) fun z w2 => z = .panicked [{ v := fault v e, recovered := false }] ∧ G w2)
  (hp : ∀ w2, G w2 → w2.heap[w.heap.size]? = some (.cells #[.int .i64 0] 3 (0, 0)) ∧ w2.heap[w.heap.size + 1]? = some (.cells #[.int .i64 0] 29 (0, 0))) :
  Calls Try.prog 34 #[.func (.func k) #[] caps] w fun z w' => z = .returned (.tuple #[.int .i64 v, .int .i64 e]) ∧ ∃ w2, G w2 ∧ Two w w2 w' := by
 have hmf : ∀ (fn : Fn) (first cap : Array Value) (w : World), (Instr.makeFunc fn first cap).run Try.prog w = .ok (.func fn first cap) w := fun _ _ _ _ => rfl
 have H := Aside0.mk h
 have HP := Aside0.mk hp
 clear h hp
 go_enter_defers Try.func34, Try.ntmps34
 go_wp2_with fail
 refine (H.out).mono ?_
 rintro z w2 ⟨rfl, hg⟩
 obtain ⟨g1, g2⟩ := HP.out w2 hg
 have HG := Aside0.mk hg
 clear H HP hg
 go_wp2_with fail
 refine leaves_cons (f := 55) (args := #[.pointer (some ⟨w.heap.size, 0, none⟩), .pointer (some ⟨w.heap.size + 1, 0, none⟩)]) (by simp) (by simp [go_sem]) ?_
 refine (catch_fault _ _ v e 0 0 [] _ (by omega) g1 g2).mono ?_
 rintro e' u' w3 ⟨rfl, rfl, n1, n2, n3⟩
 have m1 : w3.cell? ⟨w.heap.size, 0, none⟩ = some (.int .i64 v) := heap_cell n1 rfl
 have m2 : w3.cell? ⟨w.heap.size + 1, 0, none⟩ = some (.int .i64 e) := heap_cell n2 rfl
 refine ⟨.tuple #[.int .i64 v, .int .i64 e], by simp [results, Try.results34, go_sem, m1, m2], rfl, w2, HG.out, n3⟩
end Go.Proofs.Ytkkhhbegeboonaa.Rot
namespace Go.Proofs.Ytkkhhbegeboonaa.Rot
open Go.RowKit Go.Proofs.YtkkhhbegeboonaaW.PrintWords Go.Proofs.YtkkhhbegeboonaaW.PrintLast Go.Proofs.YtkkhhbegeboonaaW.PrintMore Go.Proofs.Ytkkhhbegeboonaa.Mem
set_option linter.unusedVariables false
set_option linter.unusedSimpArgs false
def Gave (res : Int × Int) (z : Ending) : Prop := z = if res.2 = 0 then .returned (.tuple #[]) else .panicked [{ v := fault res.1 res.2, recovered := false }]
theorem Gave.fault {v e : Int} (he : e ≠ 0) : Gave (v, e) (.panicked [{ v := .iface 80 (.agg #[.int .i64 v, .int .i64 e]), recovered := false }]) := by
 unfold Gave Rot.fault
 rw [if_neg he]
theorem Gave.none : Gave (0, 0) (.returned (.tuple #[])) := rfl
def ValidSays (b : Bool) (n : Int) (A : Option Addr) (l c : Nat) (w : World) : Prop := ∀ w', Below w.heap.size w w' →
 Calls Try.prog 44 #[.agg #[.int .i64 n, .slice A l c]] w' fun e w'' => e = .returned (.bool b) ∧ Below w'.heap.size w' w''
def DegreesSays (ds : List Int) (n : Int) (A : Option Addr) (l c : Nat) (w : World) : Prop := ∀ w', Below w.heap.size w w' →
 Calls Try.prog 45 #[.agg #[.int .i64 n, .slice A l c]] w' fun e w'' => ∃ v, e = .returned (.tuple #[v, .int .i64 0]) ∧ Kd.R (Kd.int .i64) 3 w'' w'.heap.size (fun _ => True) v ds ∧ Below w'.heap.size w' w''
set_option maxHeartbeats 1000000 in
set_option maxRecDepth 100000 in
theorem check_invalid (n : Int) (A : Option Addr) (l c : Nat) (Ar : Option Addr) (m cr : Nat) (w : World) (hv : ValidSays false n A l c w) :
  Calls Try.prog 36 #[.agg #[.int .i64 n, .slice A l c], .slice Ar m cr] w fun z w' => Gave (0, 1) z ∧ Below w.heap.size w w' := by
 have HB := Aside0.mk ((Below.refl w.heap.size w).alloc (Nat.le_refl _) (.cells #[.int .i64 n, .slice A l c] 24 (0, 0)))
 have HV := Aside0.mk (hv _ HB.out)
 clear hv
 go_enter Try.func36, Try.ntmps36
 go_wp2_with fail
 refine (HV.out).mono ?_
 rintro e w2 ⟨rfl, hb⟩
 have HB2 := Aside0.mk (HB.out.trans (hb.mono HB.out.size))
 clear hb HB HV
 go_wp2_with fail
 refine (must_no 0 1 _).mono ?_
 rintro e w3 ⟨rfl, rfl⟩
 go_wp2_with fail
 exact ⟨rfl, Gave.fault (by decide), HB2.out⟩
set_option maxHeartbeats 1000000 in
set_option maxRecDepth 100000 in
theorem check_length (n : Nat) (A : Option Addr) (l c : Nat) (Ar : Option Addr) (m cr : Nat) (w : World) (hv : ValidSays true (n : Int) A l c w) (hm : m ≠ n) :
  Calls Try.prog 36 #[.agg #[.int .i64 (n : Int), .slice A l c], .slice Ar m cr] w fun z w' => Gave (0, 110) z ∧ Below w.heap.size w w' := by
 have HB := Aside0.mk ((Below.refl w.heap.size w).alloc (Nat.le_refl _) (.cells #[.int .i64 (n : Int), .slice A l c] 24 (0, 0)))
 have HX := Aside0.mk (heap_last w (.cells #[.int .i64 (n : Int), .slice A l c] 24 (0, 0)))
 have HV := Aside0.mk (hv _ HB.out)
 have q1 : (((m : Nat) : Int) == ((n : Nat) : Int)) = false := by rw [beq_eq_false_iff_ne]; omega
 have q2 : (m == n) = false := by rw [beq_eq_false_iff_ne]; exact hm
 clear hv hm
 go_enter Try.func36, Try.ntmps36
 go_wp2_with fail
 refine (HV.out).mono ?_
 rintro e w2 ⟨rfl, hb⟩
 have HB2 := Aside0.mk (HB.out.trans (hb.mono HB.out.size))
 have HX2 := Aside0.mk ((hb.block _ (lt_of HX.out)).trans HX.out)
 clear hb HB HV HX
 have x0 : w2.cell? ⟨w.heap.size, 0, none⟩ = some (.int .i64 (n : Int)) := heap_cell HX2.out rfl
 go_wp2_with fail
 refine (must_yes _ _ _).mono ?_
 rintro e w3 ⟨rfl, rfl⟩
 go_wp2_with fail
 refine (must_no 0 110 _).mono ?_
 rintro e w3 ⟨rfl, rfl⟩
 go_wp2_with fail
 exact ⟨rfl, Gave.fault (by decide), HB2.out⟩
set_option maxHeartbeats 4000000 in
set_option maxRecDepth 100000 in
theorem check_rows (n : Nat) (A : Option Addr) (c : Nat) (es : List (Int × Int)) (Ar : Option Addr) (cr : Nat) (r : List (List Int)) (ds : List Int) (w : World) (hv : ValidSays true (n : Int) A es.length c w) (hd : DegreesSays ds (n : Int) A es.length c w)
  (he : Pairs w A es) (hl : es.length ≤ 4194304) (hn : n ≤ 1048576) (hr : Kd.C KR w Ar r.length r) (hm : r.length = n) (hdl : ds.length = n) :
  Calls Try.prog 36 #[.agg #[.int .i64 (n : Int), .slice A es.length c], .slice Ar r.length cr] w fun z w' => Gave (rows (froms es) ds 0 r (List.replicate (2 * es.length) false)) z ∧ Below w.heap.size w w' := by
 have HB := Aside0.mk ((Below.refl w.heap.size w).alloc (Nat.le_refl _) (.cells #[.int .i64 (n : Int), .slice A es.length c] 24 (0, 0)))
 have HX := Aside0.mk (heap_last w (.cells #[.int .i64 (n : Int), .slice A es.length c] 24 (0, 0)))
 have HV := Aside0.mk (hv _ HB.out)
 have HD := Aside0.mk hd
 have HE := Aside0.mk he
 have HR := Aside0.mk hr
 have HDL := Aside0.mk hdl
 have HM := Aside0.mk hm
 have hrl : r.length ≤ 1048576 := by omega
 obtain ⟨RES, hres⟩ : ∃ RES, RES = rows (froms es) ds 0 r (List.replicate (2 * es.length) false) := ⟨_, rfl⟩
 rw [← hres]
 have HRES := Aside0.mk hres.symm
 have q2 : ((r.length : Int) == (n : Int)) = true := by rw [beq_iff_eq]; omega
 have q3 : (r.length == n) = true := by rw [beq_iff_eq]; exact hm
 clear hv hd he hr hdl hres hm
 go_enter Try.func36, Try.ntmps36
 go_wp2_with fail
 refine (HV.out).mono ?_
 rintro e w2 ⟨rfl, hb⟩
 have HB2 := Aside0.mk (HB.out.trans (hb.mono HB.out.size))
 have HX2 := Aside0.mk ((hb.block _ (lt_of HX.out)).trans HX.out)
 clear hb HB HV HX
 have x0 : w2.cell? ⟨w.heap.size, 0, none⟩ = some (.int .i64 (n : Int)) := heap_cell HX2.out rfl
 have x1 : w2.cell? ⟨w.heap.size, 1, none⟩ = some (.slice A es.length c) := heap_cell HX2.out rfl
 go_wp2_with fail
 refine (must_yes _ _ _).mono ?_
 rintro e w3 ⟨rfl, rfl⟩
 go_wp2_with fail
 refine (must_yes _ _ _).mono ?_
 rintro e w3 ⟨rfl, rfl⟩
 go_wp2_with fail
 refine (HD.out _ HB2.out).mono ?_
 rintro e w3 ⟨vd, rfl, hR, hb⟩
 have HB3 := Aside0.mk (HB2.out.trans (hb.mono HB2.out.size))
 have HX3 := Aside0.mk ((hb.block _ (lt_of HX2.out)).trans HX2.out)
 obtain ⟨Ad, cd, rfl, _, hC⟩ := Kd.R_reads hR
 have HDS := Aside0.mk hC
 clear hb hR hC HB2 HX2 HD x0 x1 q2 q3
 have x0 : w3.cell? ⟨w.heap.size, 0, none⟩ = some (.int .i64 (n : Int)) := heap_cell HX3.out rfl
 have x1 : w3.cell? ⟨w.heap.size, 1, none⟩ = some (.slice A es.length c) := heap_cell HX3.out rfl
 go_wp2_with fail
 refine (begins_calls n A c es w3 (HE.out.below HB3.out) hl).mono ?_
 rintro e w4 ⟨vf, rfl, hR, hb⟩
 have HB4 := Aside0.mk (HB3.out.trans (hb.mono HB3.out.size))
 have HDS4 := Aside0.mk (Kd.C_below HDS.out hb)
 obtain ⟨Af, cf, rfl, _, hC⟩ := Kd.R_reads hR
 have HF4 := Aside0.mk hC
 have HR4 := Aside0.mk (Kd.C_below HR.out HB4.out)
 have hfl := froms_length es
 obtain ⟨fr, hfr⟩ : ∃ fr, fr = froms es := ⟨_, rfl⟩
 rw [← hfr] at HF4 hfl HRES ⊢
 have HFL := Aside0.mk hfl
 have hfr2 : fr.length ≤ 8388608 := by omega
 clear hb hR hC HB3 HX3 HDS HE HR x0 x1 hfl hfr
 have mk1 := print_make_of (P := Try.prog) 33 4 (.bool false) 1 Try.underlying33 info_bool rfl (by decide) fr.length (by omega)
 rw [made_bool] at mk1
 go_wp2_with fail
 clear mk1
 have HS := Aside0.mk (BRow.start w4 fr.length)
 have HBB : Aside0 (Below w4.heap.size w4 (w4.alloc (.cells (Array.replicate fr.length (Value.bool false)) 4 (0, 0)))) := ⟨(Below.refl _ _).alloc (Nat.le_refl _) _⟩
 generalize w4.alloc (.cells (Array.replicate fr.length (Value.bool false)) 4 (0, 0)) = w5 at HS HBB ⊢
 obtain ⟨bs, hbs⟩ : ∃ bs, bs = w4.heap.size := ⟨_, rfl⟩
 rw [← hbs] at HS ⊢
 have hbs2 : w4.heap.size ≤ bs := by omega
 clear hbs
 rw [← HFL.out] at HRES
 go_loopw [33] (fun y wr => ∃ (v : Nat) (S : List Bool), y = .int .i64 (v : Int) ∧ v ≤ r.length ∧ Aside0 (rows fr ds v (r.drop v) S = RES) ∧ Aside0 (S.length = fr.length) ∧ Aside0 (BRow wr bs S) ∧ Aside0 (Below w4.heap.size w4 wr)) (fun y _ => r.length - (intOf y).toNat)
 case atStart => exact ⟨0, _, rfl, by omega, HRES, ⟨by simp⟩, HS, HBB⟩
 case round =>
  clear HS HBB HRES
  obtain ⟨v, S, rfl, hvr, HRES, HSL, HS, HBB⟩ := hrel
  by_cases hlt : v < r.length
  ·obtain ⟨ad, B, cB, eA, hx4, hcB, hrow⟩ := row_at HR4.out hlt
   subst eA
   have hx := (HBB.out.cell (cell_lt hx4)).trans hx4
   clear hx4
   have hdr := drop_row hlt
   obtain ⟨row, hrw⟩ : ∃ row, row = gl r v := ⟨_, rfl⟩
   rw [← hrw] at hx hcB hrow hdr
   have hbig := C_le hrow
   rw [hdr] at HRES
   have HROW := Aside0.mk hrow
   clear hrw hdr hrow
   go_wp2_with fail
   have HS0 := HS
   have HBB0 := HBB
   have HSL0 := HSL
   obtain ⟨EL, hel⟩ : ∃ EL, EL = elems fr v row S := ⟨_, rfl⟩
   have HEL := Aside0.mk hel.symm
   have HRE : Aside0 (after fr ds v row (r.drop (v + 1)) EL = RES) := ⟨by rw [hel, ← rows_cons]; exact HRES.out⟩
   clear hel HRES
   go_loopw [40] (fun y wq => ∃ (k : Nat) (S' : List Bool), y = .int .i64 (k : Int) ∧ k ≤ row.length ∧ Aside0 (elems fr v (row.drop k) S' = EL) ∧ Aside0 (S'.length = fr.length) ∧ Aside0 (BRow wq bs S') ∧ Aside0 (Below w4.heap.size w4 wq)) (fun y _ => row.length - (intOf y).toNat)
   case atStart => exact ⟨0, S, rfl, by omega, HEL, HSL0, HS0, HBB0⟩
   case round =>
    clear HS0 HBB0 HSL0 HS HBB HSL HEL
    obtain ⟨k, S', rfl, hkr, HEL, HSL, HS, HBB⟩ := hrel
    by_cases hlt2 : k < row.length
    ·obtain ⟨ah, eH, hxh⟩ := Kd.at_int (Kd.C_below HROW.out HBB.out) (k : Int) (by omega) (by omega)
     subst eH
     rw [Int.toNat_natCast, gi_rd] at hxh
     have hdk := drop_int hlt2
     obtain ⟨h, hh⟩ : ∃ h, h = gi row k := ⟨_, rfl⟩
     rw [← hh] at hxh hdk
     rw [hdk] at HEL
     clear hh hdk
     by_cases h0 : h ≥ 0
     ·have t0 : decide (h ≥ 0) = true := decide_eq_true h0
      by_cases h1 : h < (fr.length : Int)
      ·have t1 : decide (h < (fr.length : Int)) = true := decide_eq_true h1
       obtain ⟨hn', rfl⟩ := Int.eq_ofNat_of_zero_le h0
       have hlf : hn' < fr.length := by omega
       obtain ⟨af, eF, hxf⟩ := Kd.at_int (Kd.C_below HF4.out HBB.out) (hn' : Int) (by omega) (by omega)
       subst eF
       rw [Int.toNat_natCast, gi_rd] at hxf
       obtain ⟨x, hx2⟩ : ∃ x, x = gi fr hn' := ⟨_, rfl⟩
       rw [← hx2] at hxf
       have HX2 := Aside0.mk hx2
       clear hx2 t0 h0 h1
       by_cases he : x = (v : Int)
       ·have t2 : (x == (v : Int)) = true := beq_iff_eq.2 he
        have HLV : Aside0 (leaves fr v (hn' : Int) = true) := ⟨by unfold leaves; rw [Int.toNat_natCast, ← HX2.out, t2, t1]; simp⟩
        clear he HX2
        have hxs := HS.out.cell (i := hn') (by rw [HSL.out]; exact hlf)
        have hfs := HS.out.free hn'
        cases hb : gb S' hn' with
        | true =>
         rw [hb] at hxs
         have HRE2 : Aside0 (((v : Int), 112) = RES) := ⟨by rw [← HRE.out, ← HEL.out, elems_cons_twice HLV.out (by simpa using hb)]; rfl⟩
         clear hb HEL
         go_wp2_with fail
         refine (must_yes _ _ _).mono ?_
         rintro e w6 ⟨rfl, rfl⟩
         go_wp2_with fail
         refine (must_no _ _ _).mono ?_
         rintro e w6 ⟨rfl, rfl⟩
         go_wp2_with fail
         exact ⟨rfl, by rw [← HRE2.out]; exact Gave.fault (by decide), HB4.out.trans (HBB.out.mono HB4.out.size)⟩
        | false =>
         rw [hb] at hxs
         have HEL2 : Aside0 (elems fr v (row.drop (k + 1)) (S'.set hn' true) = EL) := ⟨by rw [← HEL.out, elems_cons HLV.out (by simpa using hb)]; simp⟩
         clear hb HEL
         go_wp2_with fail
         refine (must_yes _ _ _).mono ?_
         rintro e w6 ⟨rfl, rfl⟩
         go_wp2_with fail
         refine (must_yes _ _ _).mono ?_
         rintro e w6 ⟨rfl, rfl⟩
         have HS2 := Aside0.mk (HS.out.put hn' true)
         have HBB2 := Aside0.mk (HBB.out.setCell (p := ⟨bs, hn', none⟩) hbs2 (.bool true))
         have HSL2 : Aside0 ((S'.set hn' true).length = fr.length) := ⟨by rw [List.length_set]; exact HSL.out⟩
         clear HS HBB HSL
         go_wp2_with fail
         go_roundw
         case rel => exact ⟨k + 1, _, by go_num, by omega, HEL2, HSL2, HS2, HBB2⟩
         case measure => simp [intOf]; omega
       ·have t2 : (x == (v : Int)) = false := beq_eq_false_iff_ne.2 he
        have HRE2 : Aside0 (((v : Int), 111) = RES) := ⟨by rw [← HRE.out, ← HEL.out, elems_cons_no (by unfold leaves; rw [Int.toNat_natCast, ← HX2.out, t2]; simp)]; rfl⟩
        clear he HX2 HEL
        go_wp2_with fail
        refine (must_no _ _ _).mono ?_
        rintro e w6 ⟨rfl, rfl⟩
        go_wp2_with fail
        exact ⟨rfl, by rw [← HRE2.out]; exact Gave.fault (by decide), HB4.out.trans (HBB.out.mono HB4.out.size)⟩
      ·have t1 : decide (h < (fr.length : Int)) = false := decide_eq_false h1
       have HRE2 : Aside0 (((v : Int), 111) = RES) := ⟨by rw [← HRE.out, ← HEL.out, elems_cons_no (by unfold leaves; rw [t1]; simp)]; rfl⟩
       clear h0 h1 HEL
       go_wp2_with fail
       refine (must_no _ _ _).mono ?_
       rintro e w6 ⟨rfl, rfl⟩
       go_wp2_with fail
       exact ⟨rfl, by rw [← HRE2.out]; exact Gave.fault (by decide), HB4.out.trans (HBB.out.mono HB4.out.size)⟩
     ·have t0 : decide (h ≥ 0) = false := decide_eq_false h0
      have HRE2 : Aside0 (((v : Int), 111) = RES) := ⟨by rw [← HRE.out, ← HEL.out, elems_cons_no (by unfold leaves; rw [t0]; simp)]; rfl⟩
      clear h0 HEL
      go_wp2_with fail
      refine (must_no _ _ _).mono ?_
      rintro e w6 ⟨rfl, rfl⟩
      go_wp2_with fail
      exact ⟨rfl, by rw [← HRE2.out]; exact Gave.fault (by decide), HB4.out.trans (HBB.out.mono HB4.out.size)⟩
    ·obtain rfl : k = row.length := by omega
     rw [List.drop_length] at HEL
     have HRE3 : Aside0 (after fr ds v row (r.drop (v + 1)) (.ok S') = RES) := ⟨by rw [← HRE.out, ← HEL.out]; rfl⟩
     obtain ⟨ads, eD, hxd⟩ := Kd.at_int (Kd.C_below HDS4.out HBB.out) (v : Int) (by omega) (by rw [HDL.out, ← HM.out]; omega)
     subst eD
     rw [Int.toNat_natCast, gi_rd] at hxd
     obtain ⟨x, hx2⟩ : ∃ x, x = gi ds v := ⟨_, rfl⟩
     rw [← hx2] at hxd
     have HX2 := Aside0.mk hx2
     have hvd : v < ds.length := by rw [HDL.out, ← HM.out]; exact hlt
     clear hx2 HEL
     by_cases he : (row.length : Int) = x
     ·have t2 : ((row.length : Int) == x) = true := beq_iff_eq.2 he
      have HRE4 : Aside0 (rows fr ds (v + 1) (r.drop (v + 1)) S' = RES) := ⟨by rw [← HRE3.out]; rw [after_ok, ← HX2.out, if_pos he]⟩
      clear he HX2 HRE3 HRE
      go_wp2_with fail
      refine (must_yes _ _ _).mono ?_
      rintro e w6 ⟨rfl, rfl⟩
      go_wp2_with fail
      go_roundw
      case rel => exact ⟨v + 1, S', by go_num, by omega, HRE4, HSL, HS, HBB⟩
      case measure => simp [intOf]; omega
     ·have t2 : ((row.length : Int) == x) = false := beq_eq_false_iff_ne.2 he
      have HRE4 : Aside0 (((v : Int), 113) = RES) := ⟨by rw [← HRE3.out]; rw [after_ok, ← HX2.out, if_neg he]⟩
      clear he HX2 HRE3 HRE
      go_wp2_with fail
      refine (must_no _ _ _).mono ?_
      rintro e w6 ⟨rfl, rfl⟩
      go_wp2_with fail
      exact ⟨rfl, by rw [← HRE4.out]; exact Gave.fault (by decide), HB4.out.trans (HBB.out.mono HB4.out.size)⟩
  ·obtain rfl : v = r.length := by omega
   rw [List.drop_length] at HRES
   have HRES2 : Aside0 ((0, 0) = RES) := ⟨HRES.out⟩
   clear HRES
   go_wp2_with fail
   go_end0
   exact ⟨by rw [← HRES2.out]; exact Gave.none, HB4.out.trans (HBB.out.mono HB4.out.size)⟩
def CheckSays (res : Int × Int) (g r : Value) (w : World) : Prop := ∀ w', Below w.heap.size w w' → Calls Try.prog 36 #[g, r] w' fun z w'' => Gave res z ∧ Below w'.heap.size w' w''
theorem Gave.cases {res : Int × Int} {z : Ending} (h : Gave res z) (h0 : res = (0, 0) ∨ res.2 ≠ 0) : (res = (0, 0) ∧ z = .returned (.tuple #[])) ∨ (res.2 ≠ 0 ∧ z = .panicked [{ v := Rot.fault res.1 res.2, recovered := false }]) := by
 unfold Gave at h
 rcases h0 with rfl | h0
 ·exact .inl ⟨rfl, h⟩
 ·rw [if_neg h0] at h
  exact .inr ⟨h0, h⟩
theorem check1_calls (res : Int × Int) (n : Int) (A : Option Addr) (l c : Nat) (Ar : Option Addr) (m cr : Nat) (p q : Nat) (w : World) (h0 : res = (0, 0) ∨ res.2 ≠ 0) (hc : CheckSays res (.agg #[.int .i64 n, .slice A l c]) (.slice Ar m cr) w)
  (hp : w.heap[p]? = some (.cells #[.int .i64 n, .slice A l c] 24 (0, 0))) (hq : w.heap[q]? = some (.cells #[.slice Ar m cr] 26 (0, 0))) :
  Calls Try.prog 35 #[.pointer (some ⟨p, 0, none⟩), .pointer (some ⟨q, 0, none⟩)] w fun z w' => Gave res z ∧ Below w.heap.size w w' := by
 have H := Aside0.mk (hc w (Below.refl _ _))
 have x0 : w.cell? ⟨p, 0, none⟩ = some (.int .i64 n) := heap_cell hp rfl
 have x1 : w.cell? ⟨p, 1, none⟩ = some (.slice A l c) := heap_cell hp rfl
 have x2 : w.cell? ⟨q, 0, none⟩ = some (.slice Ar m cr) := heap_cell hq rfl
 clear hp hq hc
 go_enter Try.func35, Try.ntmps35
 go_wp2_with fail
 refine (H.out).mono ?_
 rintro z w2 ⟨hg, hb⟩
 have HB := Aside0.mk hb
 clear hb H
 rcases hg.cases h0 with ⟨rfl, rfl⟩ | ⟨hne, rfl⟩
 ·clear hg h0
  go_wp2_with fail
  go_end0
  exact ⟨Gave.none, HB.out⟩
 ·have HG := Aside0.mk hg
  clear hg h0 hne
  go_wp2_with fail
  exact ⟨rfl, HG.out, HB.out⟩
theorem wCaught_below (w : World) : Below w.heap.size w (wCaught w) := ((Below.refl _ _).alloc (Nat.le_refl _) _).alloc (by simp) _
theorem wCaught_own (w : World) : (wCaught w).heap[w.heap.size]? = some (.cells #[.int .i64 0] 3 (0, 0)) ∧ (wCaught w).heap[w.heap.size + 1]? = some (.cells #[.int .i64 0] 29 (0, 0)) := by
 refine ⟨heap_old (heap_last _ _) _, ?_⟩
 have h := heap_last (w.alloc (.cells #[.int .i64 0] 3 (0, 0))) (.cells #[.int .i64 0] 29 (0, 0))
 rw [show (w.alloc (.cells #[.int .i64 0] 3 (0, 0))).heap.size = w.heap.size + 1 by simp] at h
 exact h
theorem wCaught_size (w : World) : (wCaught w).heap.size = w.heap.size + 2 := by unfold wCaught; simp
set_option maxHeartbeats 1000000 in
set_option maxRecDepth 100000 in
theorem checkCall (res : Int × Int) (n : Int) (A : Option Addr) (l c : Nat) (Ar : Option Addr) (m cr : Nat) (w : World) (h0 : res = (0, 0) ∨ res.2 ≠ 0) (hc : CheckSays res (.agg #[.int .i64 n, .slice A l c]) (.slice Ar m cr) w) :
  Calls Try.prog 15 #[.agg #[.int .i64 n, .slice A l c], .slice Ar m cr] w fun e w' => e = .returned (.tuple #[.int .i64 res.1, .int .i64 res.2]) ∧ Below w.heap.size w w' := by
 have hmf : ∀ (fn : Fn) (first cap : Array Value) (w : World), (Instr.makeFunc fn first cap).run Try.prog w = .ok (.func fn first cap) w := fun _ _ _ _ => rfl
 have HB := Aside0.mk (((Below.refl w.heap.size w).alloc (Nat.le_refl _) (.cells #[.int .i64 n, .slice A l c] 24 (0, 0))).alloc (by simp) (.cells #[.slice Ar m cr] 26 (0, 0)))
 have HX := Aside0.mk (heap_old (heap_last w (.cells #[.int .i64 n, .slice A l c] 24 (0, 0))) (.cells #[.slice Ar m cr] 26 (0, 0)))
 have HY : Aside0 (((w.alloc (.cells #[.int .i64 n, .slice A l c] 24 (0, 0))).alloc (.cells #[.slice Ar m cr] 26 (0, 0))).heap[w.heap.size + 1]? = some (.cells #[.slice Ar m cr] 26 (0, 0))) := ⟨by
  have h := heap_last (w.alloc (.cells #[.int .i64 n, .slice A l c] 24 (0, 0))) (.cells #[.slice Ar m cr] 26 (0, 0))
  rw [show (w.alloc (.cells #[.int .i64 n, .slice A l c] 24 (0, 0))).heap.size = w.heap.size + 1 by simp] at h
  exact h⟩
 have HC := Aside0.mk hc
 have H0 := Aside0.mk h0
 clear hc h0
 go_enter Try.func15, Try.ntmps15
 go_wp2_with fail
 generalize (w.alloc (.cells #[.int .i64 n, .slice A l c] 24 (0, 0))).alloc (.cells #[.slice Ar m cr] 26 (0, 0)) = w1 at HB HX HY ⊢
 have hk : ∀ W, (callFunc 35 #[.pointer (some ⟨w.heap.size, 0, none⟩), .pointer (some ⟨w.heap.size + 1, 0, none⟩)]).run Try.prog W = .ok (.enter 35 #[.pointer (some ⟨w.heap.size, 0, none⟩), .pointer (some ⟨w.heap.size + 1, 0, none⟩)]) W := fun W => by kernel_rfl
 have hb1 := wCaught_below w1
 have hcl := check1_calls res n A l c Ar m cr w.heap.size (w.heap.size + 1) (wCaught w1) H0.out (fun w' hw' => HC.out w' (HB.out.trans ((hb1.trans (hw'.mono hb1.size)).mono HB.out.size))) ((hb1.block _ (lt_of HX.out)).trans HX.out) ((hb1.block _ (lt_of HY.out)).trans HY.out)
 have hgp : ∀ w2, Below (wCaught w1).heap.size (wCaught w1) w2 → w2.heap[w1.heap.size]? = some (.cells #[.int .i64 0] 3 (0, 0)) ∧ w2.heap[w1.heap.size + 1]? = some (.cells #[.int .i64 0] 29 (0, 0)) := fun w2 h2 => ⟨(h2.block _ (by rw [wCaught_size]; omega)).trans (wCaught_own w1).1, (h2.block _ (by rw [wCaught_size]; omega)).trans (wCaught_own w1).2⟩
 have hfin : ∀ w2 w', Below (wCaught w1).heap.size (wCaught w1) w2 → Two w1 w2 w' → Below w.heap.size w w' := fun w2 w' h2 h3 => by
  have h4 := hb1.trans (h2.mono hb1.size)
  have h5 : Below w1.heap.size w2 w' := h3.below h4.size (fun k hk => by omega)
  exact HB.out.trans ((h4.trans h5).mono HB.out.size)
 have HFIN := Aside0.mk hfin
 rcases H0.out with rfl | hne
 ·refine (caught_ok 35 _ w1 _ hk (hcl.mono fun z w2 h => ⟨h.1, h.2⟩) hgp).mono ?_
  rintro z w' ⟨rfl, w2, h2, h3⟩
  have HE := Aside0.mk (HFIN.out w2 w' h2 h3)
  clear h2 h3 hgp hfin hcl hb1 hk HC
  go_wp2_with fail
  go_ret2
  exact ⟨rfl, HE.out⟩
 ·refine (caught_fault 35 _ w1 res.1 res.2 _ hk (hcl.mono fun z w2 h => ⟨by have := h.1; unfold Gave at this; rw [if_neg hne] at this; exact this, h.2⟩) hgp).mono ?_
  rintro z w' ⟨rfl, w2, h2, h3⟩
  have HE := Aside0.mk (HFIN.out w2 w' h2 h3)
  clear h2 h3 hgp hfin hcl hb1 hk HC hne
  go_wp2_with fail
  go_ret2
  exact ⟨rfl, HE.out⟩
end Go.Proofs.Ytkkhhbegeboonaa.Rot
namespace Go.Proofs.Ytkkhhbegeboonaa.Rot
open Go.RowKit Go.Proofs.YtkkhhbegeboonaaW.PrintWords Go.Proofs.YtkkhhbegeboonaaW.PrintLast Go.Proofs.Ytkkhhbegeboonaa.Mem
set_option linter.unusedVariables false
set_option linter.unusedSimpArgs false
def Filled (po : Nat) (o : List (List Int)) (w w' : World) : Prop := ∃ bo vs, Rows2 w' (bo + 1) bo vs o ∧ w'.heap[po]? = some (.cells #[.slice (some ⟨bo, 0, none⟩) o.length o.length] 26 (0, 0)) ∧ w.heap.size ≤ bo
def From1 (res : Except (Int × Int) (List (List Int))) (po : Nat) (w : World) (z : Ending) (w' : World) : Prop :=
 match res with
 | .error ve => z = .panicked [{ v := Rot.fault ve.1 ve.2, recovered := false }] ∧ Mem.Frame (fun k => k = po) w w'
 | .ok o => z = .returned (.tuple #[]) ∧ Mem.Frame (fun k => k = po) w w' ∧ Filled po o w w'
theorem frame_new {S : Nat → Prop} {a b c : World} {x : Nat} (h : Mem.Frame S a b) (k : Mem.Frame (fun i => i = x) b c) (hx : a.heap.size ≤ x) : Mem.Frame S a c :=
 ⟨k.os.trans h.os, k.tape.trans h.tape, k.output.trans h.output, Nat.le_trans h.size k.size, fun i hi hs => (k.block i (Nat.lt_of_lt_of_le hi h.size) (fun e => by omega)).trans (h.block i hi hs)⟩
theorem below_new {B : Nat} {a b c : World} {x : Nat} (h : Below B a b) (hB : B ≤ b.heap.size) (k : Mem.Frame (fun i => i = x) b c) (hx : B ≤ x) : Below B a c := h.trans ((k.below (B := B) hB (fun i hi => by omega)))
theorem _root_.Go.Proofs.Ytkkhhbegeboonaa.Mem.Rows2.edit_far {w : World} {B bo : Nat} {vs : List Value} {gs : List (List Int)} {p : Nat} {u : Value} (h : Rows2 w B bo vs gs) (hp : p < B) (hne : p ≠ bo) : Rows2 (w.setCell ⟨p, 0, none⟩ u) B bo vs gs :=
 ⟨h.len, heap_ne h.out (Ne.symm hne), fun j hj => own_move (h.own j hj) (fun k hk => Below.heap_setCell _ _ _ _ (fun e => by have := ((h.own j hj).lt k hk).1; simp at e; omega)), h.col, by have := h.base; simpa [World.setCell] using this⟩
theorem own_not_map {w : World} {B e sz n : Nat} {v : Value} {xs : List Value} (h : w.ownsRow B e sz v n xs) {x c : Nat} {es : Array MapEntry} (hx : w.heap[x]? = some (.map es c)) : ∀ k, v.ownBlock = some k → k ≠ x := by
 intro k hk hkx
 subst hkx
 rcases h.2 with ⟨rfl, rfl⟩ | ⟨g, cap, cur, rfl, hb, hh, _⟩
 ·simp [Value.ownBlock] at hk
 ·have : g = k := by simpa [Value.ownBlock] using hk
  subst this
  rw [hh] at hx
  simp at hx
theorem _root_.Go.Proofs.Ytkkhhbegeboonaa.Mem.Rows2.beside {w w1 : World} {B bo : Nat} {vs : List Value} {gs : List (List Int)} (h : Rows2 w B bo vs gs) {x c : Nat} {es : Array MapEntry} (hf : Mem.Frame (fun i => i = x) w w1) (hx : w.heap[x]? = some (.map es c)) : Rows2 w1 B bo vs gs :=
 ⟨h.len, hf.blk h.out (fun e => by rw [← e, h.out] at hx; simp at hx), fun j hj => own_move (h.own j hj) (fun k hk => hf.block k ((h.own j hj).lt k hk).2 (own_not_map (h.own j hj) hx k hk)), h.col, Nat.le_trans h.base hf.size⟩
theorem MapS.is {w : World} {b s : Nat} {o : List Int} (h : MapS w b s o) : ∃ es c, w.heap[b]? = some (.map es c) := by
 obtain ⟨f, ⟨es, c, h1, _⟩, _⟩ := h
 exact ⟨es, c, h1⟩
theorem frame_grown {S : Nat → Prop} {a b c : World} (h : Mem.Frame S a b) {row : Option Nat} (hg : b.grownBy c row) (hr : ∀ k, row = some k → a.heap.size ≤ k) : Mem.Frame S a c :=
 ⟨hg.os.trans h.os, hg.tape.trans h.tape, hg.output.trans h.output, Nat.le_trans h.size hg.size, fun i hi hs => (hg.block i (Nat.lt_of_lt_of_le hi h.size) (fun e => by have := hr i e.symm; omega)).trans (h.block i hi hs)⟩
theorem fill_app {w w1 : World} {B bo : Nat} {vs : List Value} {n v : Nat} {o : List (List Int)} {x : List Int} (h : Rows2 w B bo vs (fill n o x)) (ho : o.length = v) (hv : v < n) {V v' : Value} {y : Int} (hV : va vs v = V)
  (hown : w1.ownsRow B 3 1 v' (x.length + 1) (encs (Value.int .i64) x ++ [.int .i64 y])) (hg : w.grownBy w1 V.ownBlock) (hat : v'.ownBlock = V.ownBlock ∨ ∃ b, v'.ownBlock = some b ∧ w.heap.size ≤ b) :
  Rows2 (w1.setCell ⟨bo, v, none⟩ v') B bo (vs.set v v') (fill n o (x ++ [y])) ∧ w1.cell? ⟨bo, v, none⟩ = some V ∧ w1.frozen? ⟨bo, v, none⟩ = false := by
 subst ho
 have e : gl (fill n o x) o.length = x := by rw [gl_fill hv, if_neg (Nat.lt_irrefl _), if_pos rfl]
 have hk : o.length < (fill n o x).length := by rw [fill_length]; exact hv
 subst hV
 have ho1 : w1.heap[bo]? = some (.cells vs.toArray 28 (0, 0)) := by
  obtain ⟨f, hf⟩ := h.col
  exact (hg.block bo (lt_of h.out) (fun e => (hf o.length hk bo e.symm).2 rfl)).trans h.out
 have hl := h.len
 refine ⟨?_, heap_cell ho1 (by simp [va_of (show o.length < vs.length by omega)]), heap_free ho1 _⟩
 rw [← fill_set y hv]
 have := Rows2.app h hk (v' := v') (x := y) (by rw [e]; exact hown) hg hat
 rw [e] at this
 exact this
theorem half_range (es : List (Int × Int)) : ∀ (i : Nat) (q : Int × Int) (h : Int), halfTo es i q = some h → 0 ≤ h ∧ h < ((2 * i : Nat) : Int)
 | 0, q, h, e => by cases e
 | i + 1, q, h, e => by
  unfold halfTo at e
  split at e
  ·injection e with e; omega
  ·split at e
   ·injection e with e; omega
   ·have := half_range es i q h e; omega
set_option maxHeartbeats 1000000 in
set_option maxRecDepth 100000 in
theorem from1_invalid (n : Int) (A : Option Addr) (l c : Nat) (pg pa po : Nat) (w0 w : World) (hb : Below w0.heap.size w0 w) (hv : ValidSays false n A l c w0) (hg : w.heap[pg]? = some (.cells #[.int .i64 n, .slice A l c] 24 (0, 0))) :
  Calls Try.prog 42 #[.pointer (some ⟨pg, 0, none⟩), .pointer (some ⟨pa, 0, none⟩), .pointer (some ⟨po, 0, none⟩)] w fun z w' => From1 (.error (0, 1)) po w z w' := by
 have x0 : w.cell? ⟨pg, 0, none⟩ = some (.int .i64 n) := heap_cell hg rfl
 have x1 : w.cell? ⟨pg, 1, none⟩ = some (.slice A l c) := heap_cell hg rfl
 have HV := Aside0.mk (hv w hb)
 clear hv hg hb
 go_enter Try.func42, Try.ntmps42
 go_wp2_with fail
 refine (HV.out).mono ?_
 rintro e w2 ⟨rfl, hb⟩
 have HF : Aside0 (Mem.Frame (fun k => k = po) w w2) := ⟨Mem.Frame.of_below hb⟩
 clear hb
 go_wp2_with fail
 refine (must_no _ _ _).mono ?_
 rintro e w3 ⟨rfl, rfl⟩
 go_wp2_with fail
 exact ⟨rfl, rfl, HF.out⟩
set_option maxHeartbeats 1000000 in
set_option maxRecDepth 100000 in
theorem from1_length (n : Int) (A : Option Addr) (l c : Nat) (Ar : Option Addr) (m cr : Nat) (pg pa po : Nat) (w0 w : World) (hb : Below w0.heap.size w0 w) (hv : ValidSays true n A l c w0) (hg : w.heap[pg]? = some (.cells #[.int .i64 n, .slice A l c] 24 (0, 0))) (ha : w.heap[pa]? = some (.cells #[.slice Ar m cr] 25 (0, 0))) (hne : (m : Int) ≠ n) :
  Calls Try.prog 42 #[.pointer (some ⟨pg, 0, none⟩), .pointer (some ⟨pa, 0, none⟩), .pointer (some ⟨po, 0, none⟩)] w fun z w' => From1 (.error (0, 110)) po w z w' := by
 have x0 : w.cell? ⟨pg, 0, none⟩ = some (.int .i64 n) := heap_cell hg rfl
 have x1 : w.cell? ⟨pg, 1, none⟩ = some (.slice A l c) := heap_cell hg rfl
 have HV := Aside0.mk (hv w hb)
 have HG := Aside0.mk hg
 have HA := Aside0.mk ha
 have q1 : ((m : Int) == n) = false := beq_eq_false_iff_ne.2 hne
 clear hv hg ha hb hne
 go_enter Try.func42, Try.ntmps42
 go_wp2_with fail
 refine (HV.out).mono ?_
 rintro e w2 ⟨rfl, hb⟩
 have HF : Aside0 (Mem.Frame (fun k => k = po) w w2) := ⟨Mem.Frame.of_below hb⟩
 have y0 : w2.cell? ⟨pg, 0, none⟩ = some (.int .i64 n) := heap_cell ((hb.block _ (lt_of HG.out)).trans HG.out) rfl
 have y1 : w2.cell? ⟨pa, 0, none⟩ = some (.slice Ar m cr) := heap_cell ((hb.block _ (lt_of HA.out)).trans HA.out) rfl
 clear hb x0 x1
 go_wp2_with fail
 refine (must_yes _ _ _).mono ?_
 rintro e w3 ⟨rfl, rfl⟩
 go_wp2_with fail
 refine (must_no _ _ _).mono ?_
 rintro e w3 ⟨rfl, rfl⟩
 go_wp2_with fail
 exact ⟨rfl, rfl, HF.out⟩
set_option maxHeartbeats 2000000 in
set_option maxRecDepth 100000 in
theorem from1_rows (n : Nat) (A : Option Addr) (c : Nat) (es : List (Int × Int)) (Ar : Option Addr) (cr : Nat) (r : List (List Int)) (ds : List Int) (V0 : Value) (pg pa po : Nat) (w0 w : World) (hb : Below w0.heap.size w0 w) (hv : ValidSays true (n : Int) A es.length c w0) (hd : DegreesSays ds (n : Int) A es.length c w0)
  (he : Pairs w0 A es) (hl : es.length ≤ 4194304) (hn : n ≤ 1048576) (hr : Kd.C KR w0 Ar r.length r) (hm : r.length = n) (hdl : ds.length = n) (hin : ∀ i, i < es.length → InI (pe es i).1 ∧ InI (pe es i).2) (hir : ∀ v j, v < r.length → j < (gl r v).length → InI (gi (gl r v) j)) (hrb : ∀ v, v < r.length → (gl r v).length * 8 ≤ 140737488351232)
  (hg : w.heap[pg]? = some (.cells #[.int .i64 (n : Int), .slice A es.length c] 24 (0, 0))) (ha : w.heap[pa]? = some (.cells #[.slice Ar r.length cr] 25 (0, 0))) (ho : w.heap[po]? = some (.cells #[V0] 26 (0, 0))) (hp0 : w0.heap.size ≤ po) (hne1 : pg ≠ po) (hne2 : pa ≠ po) :
  Calls Try.prog 42 #[.pointer (some ⟨pg, 0, none⟩), .pointer (some ⟨pa, 0, none⟩), .pointer (some ⟨po, 0, none⟩)] w fun z w' => From1 (fromRows (halfOf es) ds 0 r []) po w z w' := by
 have x0 : w.cell? ⟨pg, 0, none⟩ = some (.int .i64 (n : Int)) := heap_cell hg rfl
 have x1 : w.cell? ⟨pg, 1, none⟩ = some (.slice A es.length c) := heap_cell hg rfl
 have HB0 := Aside0.mk hb
 have HV := Aside0.mk (hv w hb)
 have HD := Aside0.mk hd
 have HG := Aside0.mk hg
 have HA := Aside0.mk ha
 have HO := Aside0.mk ho
 have HE := Aside0.mk he
 have HR := Aside0.mk hr
 have HDL := Aside0.mk hdl
 have HM := Aside0.mk hm
 have HIN := Aside0.mk hin
 have HIR := Aside0.mk hir
 have HRB := Aside0.mk hrb
 have HP0 := Aside0.mk hp0
 have HNE : Aside0 (pg ≠ po ∧ pa ≠ po) := ⟨hne1, hne2⟩
 have q1 : ((r.length : Int) == (n : Int)) = true := by rw [beq_iff_eq]; omega
 have q2 : (r.length == n) = true := by rw [beq_iff_eq]; exact hm
 have hrl : r.length ≤ 1048576 := by omega
 obtain ⟨RES, hres⟩ : ∃ RES, RES = fromRows (halfOf es) ds 0 r [] := ⟨_, rfl⟩
 rw [← hres]
 have HRES := Aside0.mk hres.symm
 clear hb hv hd he hr hdl hm hin hir hrb hg ha ho hp0 hne1 hne2 hres
 go_enter Try.func42, Try.ntmps42
 go_wp2_with fail
 refine (HV.out).mono ?_
 rintro e w2 ⟨rfl, hb⟩
 have HF : Aside0 (Mem.Frame (fun _ => False) w w2) := ⟨Mem.Frame.of_below hb⟩
 have HB2 := Aside0.mk (HB0.out.trans (hb.mono HB0.out.size))
 clear hb x0 x1 HV
 have y0 : w2.cell? ⟨pg, 0, none⟩ = some (.int .i64 (n : Int)) := heap_cell (HF.out.blk HG.out (fun h => h)) rfl
 have y1 : w2.cell? ⟨pa, 0, none⟩ = some (.slice Ar r.length cr) := heap_cell (HF.out.blk HA.out (fun h => h)) rfl
 have y2 : w2.cell? ⟨pg, 1, none⟩ = some (.slice A es.length c) := heap_cell (HF.out.blk HG.out (fun h => h)) rfl
 have hmm := @run_makeMap Try.prog
 go_wp2_with fail
 refine (must_yes _ _ _).mono ?_
 rintro e w3 ⟨rfl, rfl⟩
 go_wp2_with fail
 refine (must_yes _ _ _).mono ?_
 rintro e w3 ⟨rfl, rfl⟩
 have y2' : (w2.alloc (.map #[] 0)).cell? ⟨pg, 1, none⟩ = some (.slice A es.length c) := heap_cell (heap_old (HF.out.blk HG.out (fun h => h)) _) rfl
 go_wp2_with fail
 have HF3 := Aside0.mk (HF.out.alloc (.map #[] 0))
 have HB3 := Aside0.mk (HB2.out.alloc HB2.out.size (.map #[] 0))
 have HM0 := Aside0.mk (MapH.new w2 0)
 have HFS := Aside0.mk HF.out.size
 generalize w2.alloc (.map #[] 0) = w3 at HF3 HB3 HM0 ⊢
 obtain ⟨bh, hbh⟩ : ∃ bh, bh = w2.heap.size := ⟨_, rfl⟩
 rw [← hbh] at HM0 ⊢
 have HBH : Aside0 (w.heap.size ≤ bh ∧ w0.heap.size ≤ bh) := ⟨by have := HFS.out; omega, by have := HB2.out.size; omega⟩
 clear hbh y0 y1 y2 y2' hmm HB2 HF HFS q1 q2
 go_loopw [28] (fun y wr => ∃ (i : Nat), y = .int .i64 (i : Int) ∧ i ≤ es.length ∧ Aside0 (MapH wr bh (2 * i) (halfTo es i)) ∧ Aside0 (Mem.Frame (fun _ => False) w wr) ∧ Aside0 (Below w0.heap.size w0 wr)) (fun y _ => es.length - (intOf y).toNat)
 case atStart => exact ⟨0, rfl, by omega, HM0, HF3, HB3⟩
 case round =>
  clear HM0 HF3 HB3
  obtain ⟨i, rfl, hi, HMH, HF, HB⟩ := hrel
  by_cases hlt : i < es.length
  ·obtain ⟨ad, eA, h1, h2⟩ := (HE.out.below HB.out) i hlt
   subst eA
   have hxy := HIN.out i hlt
   obtain ⟨x, hx⟩ : ∃ x, x = (pe es i).1 := ⟨_, rfl⟩
   obtain ⟨y, hy⟩ : ∃ y, y = (pe es i).2 := ⟨_, rfl⟩
   rw [← hx] at h1
   rw [← hy] at h2
   rw [← hx, ← hy] at hxy
   have HXY := Aside0.mk hxy
   have HX := Aside0.mk hx
   have HY := Aside0.mk hy
   clear hx hy hxy
   go_wp2_with fail
   have HE4 := Aside0.mk (heap_last wr (.cells #[.int .i64 x, .int .i64 y] 59 (0, 0)))
   have HF4 := Aside0.mk (HF.out.alloc (.cells #[.int .i64 x, .int .i64 y] 59 (0, 0)))
   have HB4 := Aside0.mk (HB.out.alloc HB.out.size (.cells #[.int .i64 x, .int .i64 y] 59 (0, 0)))
   have HM4 : Aside0 (MapH (wr.alloc (.cells #[.int .i64 x, .int .i64 y] 59 (0, 0))) bh (2 * i) (halfTo es i)) := ⟨HMH.out.move (Below.heap_alloc _ _ _ HMH.out.lt)⟩
   have HBE : Aside0 (wr.heap.size ≠ bh) := ⟨by have := HMH.out.lt; omega⟩
   clear h1 h2 HMH HF HB
   generalize wr.alloc (.cells #[.int .i64 x, .int .i64 y] 59 (0, 0)) = w4 at HE4 HF4 HB4 HM4 ⊢
   obtain ⟨be, hbe⟩ : ∃ be, be = wr.heap.size := ⟨_, rfl⟩
   rw [← hbe] at HE4 HBE ⊢
   clear hbe
   obtain ⟨a, ha⟩ : ∃ a : Int, a = ((2 * i : Nat) : Int) := ⟨_, rfl⟩
   obtain ⟨b, hb⟩ : ∃ b : Int, b = ((2 * i + 1 : Nat) : Int) := ⟨_, rfl⟩
   have q1 : IntKind.i64.wrap (2 * (i : Int)) = a := by rw [IntWalk.i64_in _ (by omega)]; omega
   have q2 : IntKind.i64.wrap (a + 1) = b := by rw [IntWalk.i64_in _ (by omega)]; omega
   obtain ⟨w5, r1, m1, f1⟩ := MapH.put (w := w4.drew) (HM4.out.move rfl) (by omega) HXY.out.1 HXY.out.2 a
   obtain ⟨w6, r2, m2, f2⟩ := m1.put (by omega) HXY.out.2 HXY.out.1 b
   have E40 : Aside0 (w4.drew.cell? ⟨be, 0, none⟩ = some (.int .i64 x)) := ⟨heap_cell (w := w4) HE4.out rfl⟩
   have E41 : Aside0 (w4.drew.cell? ⟨be, 1, none⟩ = some (.int .i64 y)) := ⟨heap_cell (w := w4) HE4.out rfl⟩
   have HE5 : Aside0 (w5.heap[be]? = some (.cells #[.int .i64 x, .int .i64 y] 59 (0, 0))) := ⟨f1.blk (show w4.drew.heap[be]? = _ from HE4.out) HBE.out⟩
   have E50 : Aside0 (w5.cell? ⟨be, 0, none⟩ = some (.int .i64 x)) := ⟨heap_cell HE5.out rfl⟩
   have E51 : Aside0 (w5.cell? ⟨be, 1, none⟩ = some (.int .i64 y)) := ⟨heap_cell HE5.out rfl⟩
   have HM6 : Aside0 (MapH w6 bh (2 * (i + 1)) (halfTo es (i + 1))) := ⟨by
    have e : (fun q => if q = (y, x) then some b else if q = (x, y) then some a else halfTo es i q) = halfTo es (i + 1) := by
     funext q
     rw [hb, ha, HX.out, HY.out]; rfl
    rw [← e]; exact m2⟩
   have HF6 := Aside0.mk (frame_new (frame_new HF4.out.drew f1 HBH.out.1) f2 HBH.out.1)
   have HB6 := Aside0.mk (below_new (below_new HB4.out.drew HB4.out.size f1 HBH.out.2) (Nat.le_trans HB4.out.size f1.size) f2 HBH.out.2)
   clear m1 m2 f1 f2 ha hb HE5 HE4 HF4 HB4 HM4
   refine start_ (n := 19) (S := fun w' => w'.cell? ⟨be, 0, none⟩ = some (.int .i64 x) ∧ w'.cell? ⟨be, 1, none⟩ = some (.int .i64 y)) (ds := [18]) #[false, false, false, false, false, false, false, false, false, false, false, false, false, false, false, false, false, false, false] (by kernel_rfl) rfl rfl ⟨E40.out, E41.out⟩ (fun hHeld => ?_)
   refine pure_ (i := 0) (N := some 33) (v := ?_) (a' := ?_) #[true, false, false, false, false, false, false, false, false, false, false, false, false, false, false, false, false, false, false] rfl rfl (by kernel_rfl) (fun _ _ _ h => h) (Or.inl ⟨by rfl, ?_⟩) ?_ ?_
   rotate_left
   ·intro w'
    go_simp
    with_reducible rfl
   rotate_left
   ·simp only [Act.put, List.setIfInBounds_toArray, List.set_cons_zero, List.set_cons_succ, i64_w, i32_w]
    rfl
   refine pure_ (i := 1) (N := some 34) (v := ?_) (a' := ?_) #[true, true, false, false, false, false, false, false, false, false, false, false, false, false, false, false, false, false, false] rfl rfl (by kernel_rfl) (fun _ _ _ h => h) (Or.inl ⟨by rfl, ?_⟩) ?_ ?_
   rotate_left
   ·intro w'
    go_simp
    with_reducible rfl
   rotate_left
   ·simp only [Act.put, List.setIfInBounds_toArray, List.set_cons_zero, List.set_cons_succ, i64_w, i32_w]
    rfl
   refine pure_ (i := 3) (N := some 36) (v := ?_) (a' := ?_) #[true, true, false, true, false, false, false, false, false, false, false, false, false, false, false, false, false, false, false] rfl rfl (by kernel_rfl) (fun _ _ _ h => h) (Or.inl ⟨by rfl, ?_⟩) ?_ ?_
   rotate_left
   ·intro w'
    go_simp
    with_reducible rfl
   rotate_left
   ·simp only [Act.put, List.setIfInBounds_toArray, List.set_cons_zero, List.set_cons_succ, i64_w, i32_w]
    rfl
   refine pure_ (i := 6) (N := some 39) (v := ?_) (a' := ?_) #[true, true, false, true, false, false, true, false, false, false, false, false, false, false, false, false, false, false, false] rfl rfl (by kernel_rfl) (fun _ _ _ h => h) (Or.inl ⟨by rfl, ?_⟩) ?_ ?_
   rotate_left
   ·intro w'
    go_simp
    with_reducible rfl
   rotate_left
   ·simp only [Act.put, List.setIfInBounds_toArray, List.set_cons_zero, List.set_cons_succ, i64_w, i32_w]
    rfl
   refine pure_ (i := 7) (N := some 40) (v := ?_) (a' := ?_) #[true, true, false, true, false, false, true, true, false, false, false, false, false, false, false, false, false, false, false] rfl rfl (by kernel_rfl) (fun _ _ _ h => h) (Or.inl ⟨by rfl, ?_⟩) ?_ ?_
   rotate_left
   ·intro w'
    go_simp
    with_reducible rfl
   rotate_left
   ·simp only [Act.put, List.setIfInBounds_toArray, List.set_cons_zero, List.set_cons_succ, i64_w, i32_w]
    rfl
   refine pure_ (i := 9) (N := some 42) (v := ?_) (a' := ?_) #[true, true, false, true, false, false, true, true, false, true, false, false, false, false, false, false, false, false, false] rfl rfl (by kernel_rfl) (fun _ _ _ h => h) (Or.inl ⟨by rfl, ?_⟩) ?_ ?_
   rotate_left
   ·intro w'
    go_simp
    with_reducible rfl
   rotate_left
   ·simp only [Act.put, List.setIfInBounds_toArray, List.set_cons_zero, List.set_cons_succ, i64_w, i32_w]
    rfl
   refine pure_ (i := 12) (N := some 45) (v := ?_) (a' := ?_) #[true, true, false, true, false, false, true, true, false, true, false, false, true, false, false, false, false, false, false] rfl rfl (by kernel_rfl) (fun _ _ _ h => h) (Or.inl ⟨by rfl, ?_⟩) ?_ ?_
   rotate_left
   ·intro w'
    go_simp
    with_reducible rfl
   rotate_left
   ·simp only [Act.put, List.setIfInBounds_toArray, List.set_cons_zero, List.set_cons_succ, i64_w, i32_w]
    rfl
   refine pure_ (i := 13) (N := some 46) (v := ?_) (a' := ?_) #[true, true, false, true, false, false, true, true, false, true, false, false, true, true, false, false, false, false, false] rfl rfl (by kernel_rfl) (fun _ _ _ h => h) (Or.inl ⟨by rfl, ?_⟩) ?_ ?_
   rotate_left
   ·intro w'
    go_simp
    with_reducible rfl
   rotate_left
   ·simp only [Act.put, List.setIfInBounds_toArray, List.set_cons_zero, List.set_cons_succ, i64_w, i32_w]
    rfl
   refine pure_ (i := 14) (N := some 47) (v := ?_) (a' := ?_) #[true, true, false, true, false, false, true, true, false, true, false, false, true, true, true, false, false, false, false] rfl rfl (by kernel_rfl) (fun _ _ _ h => h) (Or.inl ⟨by rfl, ?_⟩) ?_ ?_
   rotate_left
   ·intro w'
    go_simp
    with_reducible rfl
   rotate_left
   ·simp only [Act.put, List.setIfInBounds_toArray, List.set_cons_zero, List.set_cons_succ, i64_w, i32_w]
    rfl
   refine pure_ (i := 15) (N := some 48) (v := ?_) (a' := ?_) #[true, true, false, true, false, false, true, true, false, true, false, false, true, true, true, true, false, false, false] rfl rfl (by kernel_rfl) (fun _ _ _ h => h) (Or.inl ⟨by rfl, ?_⟩) ?_ ?_
   rotate_left
   ·intro w'
    go_simp
    with_reducible rfl
   rotate_left
   ·simp only [Act.put, List.setIfInBounds_toArray, List.set_cons_zero, List.set_cons_succ, i64_w, i32_w]
    rfl
   refine pure_ (i := 16) (N := some 49) (v := ?_) (a' := ?_) #[true, true, false, true, false, false, true, true, false, true, false, false, true, true, true, true, true, false, false] rfl rfl (by kernel_rfl) (fun _ _ _ h => h) (Or.inl ⟨by rfl, ?_⟩) ?_ ?_
   rotate_left
   ·intro w'
    go_simp
    with_reducible rfl
   rotate_left
   ·simp only [Act.put, List.setIfInBounds_toArray, List.set_cons_zero, List.set_cons_succ, i64_w, i32_w]
    rfl
   refine take_ (i := 2) (N := some 35) (v := ?_) (a' := ?_) #[true, true, true, true, false, false, true, true, false, true, false, false, true, true, true, true, true, false, false] rfl rfl (by kernel_rfl) (fun _ _ _ h => h) (Or.inl ⟨by rfl, ?_⟩) hHeld ?_ ?_
   rotate_left
   ·rintro w' ⟨s0, s1⟩
    go_simp
    with_reducible rfl
   rotate_left
   ·simp only [Act.put, List.setIfInBounds_toArray, List.set_cons_zero, List.set_cons_succ, i64_w, i32_w]
    rfl
   refine take_ (i := 4) (N := some 37) (v := ?_) (a' := ?_) #[true, true, true, true, true, false, true, true, false, true, false, false, true, true, true, true, true, false, false] rfl rfl (by kernel_rfl) (fun _ _ _ h => h) (Or.inl ⟨by rfl, ?_⟩) hHeld ?_ ?_
   rotate_left
   ·rintro w' ⟨s0, s1⟩
    go_simp
    with_reducible rfl
   rotate_left
   ·simp only [Act.put, List.setIfInBounds_toArray, List.set_cons_zero, List.set_cons_succ, i64_w, i32_w]
    rfl
   refine pure_ (i := 5) (N := some 38) (v := ?_) (a' := ?_) #[true, true, true, true, true, true, true, true, false, true, false, false, true, true, true, true, true, false, false] rfl rfl (by kernel_rfl) (fun _ _ _ h => h) (Or.inl ⟨by rfl, ?_⟩) ?_ ?_
   rotate_left
   ·intro w'
    go_simp
    with_reducible rfl
   rotate_left
   ·simp only [Act.put, List.setIfInBounds_toArray, List.set_cons_zero, List.set_cons_succ, i64_w, i32_w]
    rfl
   refine take_ (i := 8) (N := some 41) (v := ?_) (a' := ?_) #[true, true, true, true, true, true, true, true, true, true, false, false, true, true, true, true, true, false, false] rfl rfl (by kernel_rfl) (fun _ _ _ h => h) (Or.inl ⟨by rfl, ?_⟩) hHeld ?_ ?_
   rotate_left
   ·rintro w' ⟨s0, s1⟩
    go_simp
    with_reducible rfl
   rotate_left
   ·simp only [Act.put, List.setIfInBounds_toArray, List.set_cons_zero, List.set_cons_succ, i64_w, i32_w]
    rfl
   refine take_ (i := 10) (N := some 43) (v := ?_) (a' := ?_) #[true, true, true, true, true, true, true, true, true, true, true, false, true, true, true, true, true, false, false] rfl rfl (by kernel_rfl) (fun _ _ _ h => h) (Or.inl ⟨by rfl, ?_⟩) hHeld ?_ ?_
   rotate_left
   ·rintro w' ⟨s0, s1⟩
    go_simp
    with_reducible rfl
   rotate_left
   ·simp only [Act.put, List.setIfInBounds_toArray, List.set_cons_zero, List.set_cons_succ, i64_w, i32_w]
    rfl
   refine pure_ (i := 11) (N := some 44) (v := ?_) (a' := ?_) #[true, true, true, true, true, true, true, true, true, true, true, true, true, true, true, true, true, false, false] rfl rfl (by kernel_rfl) (fun _ _ _ h => h) (Or.inl ⟨by rfl, ?_⟩) ?_ ?_
   rotate_left
   ·intro w'
    go_simp
    with_reducible rfl
   rotate_left
   ·simp only [Act.put, List.setIfInBounds_toArray, List.set_cons_zero, List.set_cons_succ, i64_w, i32_w]
    rfl
   refine one_ (i := 17) (N := none) #[true, true, true, true, true, true, true, true, true, true, true, true, true, true, true, true, true, true, false] rfl rfl (by kernel_rfl) (by decide) (fun K hK => ?_)
   refine skip_ (w1 := ?_) (by rfl) rfl ?_ ?_
   rotate_left
   ·go_simp
    rfl
   refine hK.out _ _ ⟨E50.out, E51.out⟩ (fun hHeld => ?_)
   clear hK K
   refine last_ (i := 18) (N := none) #[true, true, true, true, true, true, true, true, true, true, true, true, true, true, true, true, true, true, true] rfl rfl (by kernel_rfl) (by decide) (fun K hK => ?_)
   refine skip_ (w1 := ?_) (by rfl) rfl ?_ ?_
   rotate_left
   ·go_simp
    rfl
   refine hK.out _ _ ?_
   clear hK K
   refine done_ (by kernel_rfl) ?_
   clear r1 r2 q1 q2
   go_wp2_with fail
   go_roundw
   case rel => exact ⟨i + 1, by go_num, by omega, HM6, HF6, HB6⟩
   case measure => simp [intOf]; omega
  ·obtain rfl : i = es.length := by omega
   have HMH2 : Aside0 (MapH wr bh (2 * es.length) (halfOf es)) := HMH
   have y0 : wr.cell? ⟨pg, 0, none⟩ = some (.int .i64 (n : Int)) := heap_cell (HF.out.blk HG.out (fun h => h)) rfl
   have y2 : wr.cell? ⟨pg, 1, none⟩ = some (.slice A es.length c) := heap_cell (HF.out.blk HG.out (fun h => h)) rfl
   clear HMH
   go_wp2_with fail
   refine (HD.out wr HB.out).mono ?_
   rintro e w4 ⟨vd, rfl, hR, hb4⟩
   have HB4 := Aside0.mk (HB.out.trans (hb4.mono HB.out.size))
   have HF4 := Aside0.mk (HF.out.trans (Mem.Frame.of_below hb4 : Mem.Frame (fun _ => False) wr w4))
   have HM4 := Aside0.mk (HMH2.out.move (hb4.block bh HMH2.out.lt))
   have HD4 := Aside0.mk (Kd.own_of_R hR)
   have HSZ := Aside0.mk hb4.size
   have HLB := Aside0.mk HMH2.out.lt
   obtain ⟨Ad, cd, rfl⟩ := own_slice HD4.out
   clear hR hb4 y0 y2 HMH2
   have y0 : w4.cell? ⟨pg, 0, none⟩ = some (.int .i64 (n : Int)) := heap_cell (HF4.out.blk HG.out (fun h => h)) rfl
   have mk1 := print_make_of (P := Try.prog) 26 28 (.slice none 0 0) 24 Try.underlying26 info_ints rfl (by decide) n (by omega)
   rw [made_nil] at mk1
   have z0 : (w4.alloc (.cells (Array.replicate n (Value.slice none 0 0)) 28 (0, 0))).cell? ⟨po, 0, none⟩ = some V0 := heap_cell (heap_old (HF4.out.blk HO.out (fun h => h)) _) rfl
   have z1 : (w4.alloc (.cells (Array.replicate n (Value.slice none 0 0)) 28 (0, 0))).frozen? ⟨po, 0, none⟩ = false := heap_free (heap_old (HF4.out.blk HO.out (fun h => h)) _) 0
   have z2 : ((w4.alloc (.cells (Array.replicate n (Value.slice none 0 0)) 28 (0, 0))).setCell ⟨po, 0, none⟩ (.slice (some ⟨w4.heap.size, 0, none⟩) n n)).cell? ⟨pa, 0, none⟩ = some (.slice Ar r.length cr) := heap_cell (heap_ne (heap_old (HF4.out.blk HA.out (fun h => h)) _) HNE.out.2) rfl
   go_wp2_with fail
   have HPL : Aside0 (po < w4.heap.size) := ⟨lt_of (HF4.out.blk HO.out (fun h => h))⟩
   have HG5 := Rows2.start w4 n
   rw [← fill_none n] at HG5
   have HG6 : Aside0 (∃ vs, Rows2 ((w4.alloc (.cells (Array.replicate n (Value.slice none 0 0)) 28 (0, 0))).setCell ⟨po, 0, none⟩ (.slice (some ⟨w4.heap.size, 0, none⟩) n n)) (w4.heap.size + 1) w4.heap.size vs (fill n [] [])) := ⟨_, HG5.edit_far (by have := HPL.out; simp; omega) (by have := HPL.out; omega)⟩
   have HP6 : Aside0 (((w4.alloc (.cells (Array.replicate n (Value.slice none 0 0)) 28 (0, 0))).setCell ⟨po, 0, none⟩ (.slice (some ⟨w4.heap.size, 0, none⟩) n n)).heap[po]? = some (.cells #[.slice (some ⟨w4.heap.size, 0, none⟩) n n] 26 (0, 0))) := ⟨heap_set (heap_old (HF4.out.blk HO.out (fun h => h)) _) _⟩
   have HF6 : Aside0 (Mem.Frame (fun k => k = po) w ((w4.alloc (.cells (Array.replicate n (Value.slice none 0 0)) 28 (0, 0))).setCell ⟨po, 0, none⟩ (.slice (some ⟨w4.heap.size, 0, none⟩) n n))) := ⟨Mem.Frame.setCell (S := fun k => k = po) ((HF4.out.mono (fun k _ h => h.elim)).alloc _) (p := ⟨po, 0, none⟩) rfl _⟩
   have HB6 : Aside0 (Below w0.heap.size w0 ((w4.alloc (.cells (Array.replicate n (Value.slice none 0 0)) 28 (0, 0))).setCell ⟨po, 0, none⟩ (.slice (some ⟨w4.heap.size, 0, none⟩) n n))) := ⟨(HB4.out.alloc HB4.out.size _).setCell (p := ⟨po, 0, none⟩) HP0.out _⟩
   have HM6 : Aside0 (MapH ((w4.alloc (.cells (Array.replicate n (Value.slice none 0 0)) 28 (0, 0))).setCell ⟨po, 0, none⟩ (.slice (some ⟨w4.heap.size, 0, none⟩) n n)) bh (2 * es.length) (halfOf es)) := ⟨HM4.out.move ((Below.heap_setCell _ _ _ _ (fun e => by have := lt_of HO.out; have := HBH.out.1; simp at e; omega)).trans (Below.heap_alloc _ _ _ HM4.out.lt))⟩
   have HD6 : Aside0 (((w4.alloc (.cells (Array.replicate n (Value.slice none 0 0)) 28 (0, 0))).setCell ⟨po, 0, none⟩ (.slice (some ⟨w4.heap.size, 0, none⟩) n n)).ownsRow wr.heap.size 3 1 (.slice Ad ds.length cd) ds.length (encs (Value.int .i64) ds)) := ⟨own_move HD4.out (fun k hk => (Below.heap_setCell _ _ _ _ (fun e => by have := lt_of HO.out; have := HF.out.size; have := (HD4.out.lt k hk).1; simp at e; omega)).trans (Below.heap_alloc _ _ _ (HD4.out.lt k hk).2))⟩
   have HS6 : Aside0 (((w4.alloc (.cells (Array.replicate n (Value.slice none 0 0)) 28 (0, 0))).setCell ⟨po, 0, none⟩ (.slice (some ⟨w4.heap.size, 0, none⟩) n n)).heap.size = w4.heap.size + 1) := ⟨by simp [World.setCell]⟩
   clear mk1 z0 z1 z2 y0 HG5
   generalize (w4.alloc (.cells (Array.replicate n (Value.slice none 0 0)) 28 (0, 0))).setCell ⟨po, 0, none⟩ (.slice (some ⟨w4.heap.size, 0, none⟩) n n) = w6 at HG6 HP6 HF6 HB6 HM6 HD6 HS6 ⊢
   obtain ⟨bo, hbo⟩ : ∃ bo, bo = w4.heap.size := ⟨_, rfl⟩
   rw [← hbo] at HG6 HP6 HS6 HPL ⊢
   have HBO : Aside0 (w.heap.size ≤ bo ∧ w0.heap.size ≤ bo ∧ bh < bo ∧ po < bo ∧ wr.heap.size ≤ bo) := ⟨by have := HF4.out.size; have := HB4.out.size; have := HLB.out; have := HSZ.out; have := HPL.out; omega⟩
   have HDB : Aside0 (∀ k, (Value.slice Ad ds.length cd).ownBlock = some k → k < bo) := ⟨fun k hk => by rw [hbo]; exact (HD4.out.lt k hk).2⟩
   clear hbo HB4 HF4 HM4 HD4 HF HB HLB HSZ
   obtain ⟨vs0, hg6⟩ := HG6.out
   have HG7 := Aside0.mk hg6
   clear hg6 HG6
   obtain ⟨half, hhalf⟩ : ∃ half, half = halfOf es := ⟨_, rfl⟩
   rw [← hhalf] at HRES HM6
   have HHR : Aside0 (∀ q h, half q = some h → InI h) := ⟨fun q h e => by
    rw [hhalf] at e
    have := half_range es es.length q h e
    exact ⟨by omega, by omega⟩⟩
   obtain ⟨be, hbe⟩ : ∃ be, be = wr.heap.size := ⟨_, rfl⟩
   rw [← hbe] at HD6 HBO
   clear hhalf hbe HPL HIN HE
   have HFR0 : Aside0 (Mem.Frame (fun k => k = bo) w6 w6) := ⟨Mem.Frame.refl _ _⟩
   go_loopw [61] (fun y wr => ∃ (v : Nat) (o : List (List Int)) (vs : List Value), y = .int .i64 (v : Int) ∧ v ≤ r.length ∧ o.length = v ∧ Aside0 (fromRows half ds v (r.drop v) o = RES) ∧ Aside0 (Rows2 wr (bo + 1) bo vs (fill n o [])) ∧ Aside0 (Mem.Frame (fun k => k = bo) w6 wr)) (fun y _ => r.length - (intOf y).toNat)
   case atStart => exact ⟨0, [], vs0, rfl, by omega, rfl, HRES, HG7, HFR0⟩
   case round =>
    clear HG7 HFR0 HRES
    obtain ⟨v, o, vs, rfl, hvr, hov, HRES, HG, HFR⟩ := hrel
    by_cases hlt : v < r.length
    ·obtain ⟨ad1, D, cD, eA, hx0, hcD, hrow⟩ := row_at HR.out hlt
     subst eA
     have hbw := below_new HB6.out HB6.out.size HFR.out HBO.out.2.1
     have hx := (hbw.cell (cell_lt hx0)).trans hx0
     have hrb := HRB.out v hlt
     have HIR2 : Aside0 (∀ j, j < (gl r v).length → InI (gi (gl r v) j)) := ⟨fun j hj => HIR.out v j hlt hj⟩
     have hdr := drop_row hlt
     obtain ⟨row, hrw⟩ : ∃ row, row = gl r v := ⟨_, rfl⟩
     rw [← hrw] at hx hcD hrow hrb HIR2 hdr
     rw [hdr, fromRows_cons] at HRES
     have HROW := Aside0.mk hrow
     obtain ⟨EL, hel⟩ : ∃ EL, EL = walkRow half v row [] := ⟨_, rfl⟩
     have HEL := Aside0.mk hel.symm
     rw [← hel] at HRES
     have HRE := HRES
     have HOV := Aside0.mk hov
     have hmm := @run_makeMap Try.prog
     have HSF := Aside0.mk HFR.out.size
     clear hx0 hbw hrow hrw hdr hel HRES hov
     go_wp2_with fail
     have HG7 := Aside0.mk (HG.out.below ((Below.refl _ _).alloc (Nat.le_refl _) (.map #[] 0)))
     have HFR7 := Aside0.mk (HFR.out.alloc (.map #[] 0))
     have HMS7 := Aside0.mk (MapS.new wr 0)
     have HBS : Aside0 (w6.heap.size ≤ wr.heap.size) := HSF
     clear hmm hx HG HFR HSF
     generalize wr.alloc (.map #[] 0) = w7 at HG7 HFR7 HMS7 ⊢
     obtain ⟨bs, hbs⟩ : ∃ bs, bs = wr.heap.size := ⟨_, rfl⟩
     rw [← hbs] at HMS7 HBS ⊢
     clear hbs
     have HVN : Aside0 (v < n) := ⟨by rw [← HM.out]; exact hlt⟩
     go_loopw [69] (fun y wr => ∃ (j : Nat) (x : List Int) (vs : List Value), y = .int .i64 (j : Int) ∧ j ≤ row.length ∧ x.length = j ∧ Aside0 (walkRow half v (row.drop j) x = EL) ∧ Aside0 (Rows2 wr (bo + 1) bo vs (fill n o x)) ∧ Aside0 (MapS wr bs j x) ∧ Aside0 (Mem.Frame (fun k => k = bo) w6 wr)) (fun y _ => row.length - (intOf y).toNat)
     case atStart => exact ⟨0, [], vs, rfl, by omega, rfl, HEL, HG7, HMS7, HFR7⟩
     case round =>
      clear HG7 HFR7 HMS7 HEL
      obtain ⟨j, x, vs, rfl, hjr, hxl, HEL, HG, HMS, HFR⟩ := hrel
      by_cases hjl : j < row.length
      ·obtain ⟨ad2, eD, hxu⟩ := Kd.at_int (Kd.C_below HROW.out (below_new HB6.out HB6.out.size HFR.out HBO.out.2.1)) (j : Int) (by omega) (by omega)
       subst eD
       rw [gi_rd, Int.toNat_natCast] at hxu
       have hdj := drop_int hjl
       have hiu := HIR2.out j hjl
       obtain ⟨u, hu⟩ : ∃ u, u = gi row j := ⟨_, rfl⟩
       rw [← hu] at hxu hdj hiu
       rw [hdj] at HEL
       have hiv : InI (v : Int) := ⟨by omega, by omega⟩
       have la := (HM6.out.move (HFR.out.block bh HM6.out.lt (fun e => by have := HBO.out.2.2.1; omega))).ask hiv hiu
       clear hu hdj hiu hiv
       cases hh : half ((v : Int), u) with
       | none =>
        rw [hh] at la
        have HRE2 : Aside0 (Except.error ((v : Int), (111 : Int)) = RES) := ⟨by rw [← HRE.out, ← HEL.out, walkRow_none hh]; rfl⟩
        have HFIN : Aside0 (Mem.Frame (fun k => k = po) w wr) := ⟨frame_new HF6.out HFR.out HBO.out.1⟩
        clear hh HEL HRE
        simp only at la
        go_wp2_with fail
        refine (must_no _ _ _).mono ?_
        rintro e w9 ⟨rfl, rfl⟩
        go_wp2_with fail
        refine ⟨rfl, ?_⟩
        rw [← HRE2.out]
        exact ⟨rfl, HFIN.out⟩
       | some h =>
        rw [hh] at la
        simp only at la
        have hih := HHR.out _ _ hh
        have lb := HMS.out.get hih
        by_cases hm : h ∈ x
        ·rw [decide_eq_true hm] at lb
         have HRE2 : Aside0 (Except.error ((v : Int), (112 : Int)) = RES) := ⟨by rw [← HRE.out, ← HEL.out, walkRow_twice hh hm]; rfl⟩
         have HFIN : Aside0 (Mem.Frame (fun k => k = po) w wr) := ⟨frame_new HF6.out HFR.out HBO.out.1⟩
         clear hh HEL HRE hih hm
         go_wp2_with fail
         refine (must_yes _ _ _).mono ?_
         rintro e w9 ⟨rfl, rfl⟩
         go_wp2_with fail
         refine (must_no _ _ _).mono ?_
         rintro e w9 ⟨rfl, rfl⟩
         go_wp2_with fail
         refine ⟨rfl, ?_⟩
         rw [← HRE2.out]
         exact ⟨rfl, HFIN.out⟩
        ·rw [decide_eq_false hm] at lb
         have HEL2 : Aside0 (walkRow half v (row.drop (j + 1)) (x ++ [h]) = EL) := ⟨by rw [← HEL.out, walkRow_on hh hm]⟩
         obtain ⟨w8, rc, hms8, f8⟩ := HMS.out.put (by omega) hih
         obtain ⟨ent, clk, hmap⟩ := HMS.out.is
         have HG8 := Aside0.mk (HG.out.beside f8 hmap)
         have HMS8 := Aside0.mk hms8
         have HFR8 := Aside0.mk (frame_new HFR.out f8 HBS.out)
         clear hh HEL hih hm hms8 f8 hmap HG HMS HFR
         go_wp2_with fail
         refine (must_yes _ _ _).mono ?_
         rintro e w9 ⟨rfl, rfl⟩
         go_wp2_with fail
         refine (must_yes _ _ _).mono ?_
         rintro e w9 ⟨rfl, rfl⟩
         go_wp2_with fail
         have ho := HG8.out.own v (by rw [fill_length]; exact HVN.out)
         have eg : gl (fill n o x) v = x := by rw [gl_fill HVN.out, ← HOV.out, if_neg (Nat.lt_irrefl _), if_pos rfl]
         rw [eg, hxl] at ho
         obtain ⟨Av, cv, hV⟩ := own_slice ho
         have HV := Aside0.mk hV
         rw [hV] at ho
         have hc := HG8.out.cell (j := v) (by rw [fill_length]; exact HVN.out)
         rw [hV] at hc
         have HOW : Aside0 (w8.drew.ownsRow (bo + 1) 3 1 (.slice Av j cv) j (encs (Value.int .i64) x)) := ⟨ho⟩
         have HGD : Aside0 (Rows2 w8.drew (bo + 1) bo vs (fill n o x)) := ⟨⟨HG8.out.len, HG8.out.out, HG8.out.own, HG8.out.col, HG8.out.base⟩⟩
         have HFRD := Aside0.mk HFR8.out.drew
         have HMSD : Aside0 (MapS w8.drew bs (j + 1) (x ++ [h])) := ⟨HMS8.out.move rfl⟩
         have HPE : Aside0 (po ≠ bo) := ⟨fun e => by have := HBO.out.2.2.2.1; omega⟩
         have HS0 : Aside0 (w8.drew.cell? ⟨po, 0, none⟩ = some (.slice (some ⟨bo, 0, none⟩) n n)) := ⟨heap_cell (HFRD.out.blk HP6.out HPE.out) rfl⟩
         have HS1 : Aside0 (w8.drew.cell? ⟨bo, v, none⟩ = some (.slice Av j cv)) := ⟨hc⟩
         have hvn := HVN.out
         clear ho eg hV hc la lb rc hxu HG8 HMS8 HFR8
         refine start_ (n := 11) (S := fun w' => w'.cell? ⟨po, 0, none⟩ = some (.slice (some ⟨bo, 0, none⟩) n n) ∧ w'.cell? ⟨bo, v, none⟩ = some (.slice Av j cv)) (ds := [10]) #[false, false, false, false, false, false, false, false, false, false, false] (by kernel_rfl) rfl rfl ⟨HS0.out, HS1.out⟩ (fun hHeld => ?_)
         refine pure_ (i := 1) (N := some 93) (v := ?_) (a' := ?_) #[false, true, false, false, false, false, false, false, false, false, false] rfl rfl (by kernel_rfl) (fun _ _ _ h => h) (Or.inl ⟨by rfl, ?_⟩) ?_ ?_
         rotate_left
         ·intro w'
          go_simp
          with_reducible rfl
         rotate_left
         ·simp only [Act.put, List.setIfInBounds_toArray, List.set_cons_zero, List.set_cons_succ, i64_w, i32_w]
          rfl
         refine pure_ (i := 3) (N := some 95) (v := ?_) (a' := ?_) #[false, true, false, true, false, false, false, false, false, false, false] rfl rfl (by kernel_rfl) (fun _ _ _ h => h) (Or.inl ⟨by rfl, ?_⟩) ?_ ?_
         rotate_left
         ·intro w'
          go_simp
          with_reducible rfl
         rotate_left
         ·simp only [Act.put, List.setIfInBounds_toArray, List.set_cons_zero, List.set_cons_succ, i64_w, i32_w]
          rfl
         refine pure_ (i := 6) (N := some 98) (v := ?_) (a' := ?_) #[false, true, false, true, false, false, true, false, false, false, false] rfl rfl (by kernel_rfl) (fun _ _ _ h => h) (Or.inl ⟨by rfl, ?_⟩) ?_ ?_
         rotate_left
         ·intro w'
          go_simp
          with_reducible rfl
         rotate_left
         ·simp only [Act.put, List.setIfInBounds_toArray, List.set_cons_zero, List.set_cons_succ, i64_w, i32_w]
          rfl
         refine take_ (i := 0) (N := some 92) (v := ?_) (a' := ?_) #[true, true, false, true, false, false, true, false, false, false, false] rfl rfl (by kernel_rfl) (fun _ _ _ h => h) (Or.inl ⟨by rfl, ?_⟩) hHeld ?_ ?_
         rotate_left
         ·rintro w' ⟨s0, s1⟩
          go_simp
          with_reducible rfl
         rotate_left
         ·simp only [Act.put, List.setIfInBounds_toArray, List.set_cons_zero, List.set_cons_succ, i64_w, i32_w]
          rfl
         refine take_ (i := 2) (N := some 94) (v := ?_) (a' := ?_) #[true, true, true, true, false, false, true, false, false, false, false] rfl rfl (by kernel_rfl) (fun _ _ _ h => h) (Or.inl ⟨by rfl, ?_⟩) hHeld ?_ ?_
         rotate_left
         ·rintro w' ⟨s0, s1⟩
          go_simp
          with_reducible rfl
         rotate_left
         ·simp only [Act.put, List.setIfInBounds_toArray, List.set_cons_zero, List.set_cons_succ, i64_w, i32_w]
          rfl
         refine pure_ (i := 4) (N := some 96) (v := ?_) (a' := ?_) #[true, true, true, true, true, false, true, false, false, false, false] rfl rfl (by kernel_rfl) (fun _ _ _ h => h) (Or.inl ⟨by rfl, ?_⟩) ?_ ?_
         rotate_left
         ·intro w'
          go_simp
          with_reducible rfl
         rotate_left
         ·simp only [Act.put, List.setIfInBounds_toArray, List.set_cons_zero, List.set_cons_succ, i64_w, i32_w]
          rfl
         refine take_ (i := 5) (N := some 97) (v := ?_) (a' := ?_) #[true, true, true, true, true, true, true, false, false, false, false] rfl rfl (by kernel_rfl) (fun _ _ _ h => h) (Or.inl ⟨by rfl, ?_⟩) hHeld ?_ ?_
         rotate_left
         ·rintro w' ⟨s0, s1⟩
          go_simp
          with_reducible rfl
         rotate_left
         ·simp only [Act.put, List.setIfInBounds_toArray, List.set_cons_zero, List.set_cons_succ, i64_w, i32_w]
          rfl
         refine one_ (i := 7) (N := some 99) #[true, true, true, true, true, true, true, true, false, false, false] rfl rfl (by kernel_rfl) (by decide) (fun K hK => ?_)
         refine value_ (w1 := ?_) (v := ?_) (by rfl) rfl ?_ ?_
         rotate_left 2
         ·go_simp
          constructor
          ·rfl
          ·rfl
         refine hK.out _ _ ⟨(World.cell?_alloc_lt _ _ _ (World.block_lt_of_cell? _ _ hHeld.1)).trans hHeld.1, (World.cell?_alloc_lt _ _ _ (World.block_lt_of_cell? _ _ hHeld.2)).trans hHeld.2⟩ (fun hHeld => ?_)
         clear hK K
         refine norm_ (a' := ?_) ?_ ?_
         rotate_left
         ·show Act.put _ (some 99) _ = _
          simp only [Act.put, List.setIfInBounds_toArray, List.set_cons_zero, List.set_cons_succ, i64_w, i32_w]
          rfl
         refine one_ (i := 8) (N := some 100) #[true, true, true, true, true, true, true, true, true, false, false] rfl rfl (by kernel_rfl) (by decide) (fun K hK => ?_)
         refine step_append_cells (bo + 1) (by rfl) (.tmp 97) (.tmp 99) 28 3 (.int .i64 0) 1 8 rfl Try.underlying28 info_int rfl (by decide) (by omega) (.slice Av j cv) j (encs (Value.int .i64) x) [.int .i64 h] rfl rfl rfl ?aN HOW.out (Below.refl _ _) HGD.out.base ?aL ?_
         (case aN => intro u hu; simp at hu; subst hu; rfl)
         (case aL => omega)
         intro v1 w9 hown hb hg hat
         obtain ⟨A', c', rfl⟩ := own_slice hown
         obtain ⟨g1, g2, g3⟩ := fill_app HGD.out HOV.out HVN.out HV.out (by rw [hxl]; exact hown) hg hat
         have HG9 := Aside0.mk g1
         have HFR9 := Aside0.mk (frame_grown HFRD.out hg (fun k hk => by have := (HOW.out.lt k hk).1; have := HS6.out; omega))
         obtain ⟨ent9, clk9, hmap9⟩ := HMSD.out.is
         have HMS9 := Aside0.mk (HMSD.out.move (hg.block bs HMSD.out.lt (fun e => own_not_map HOW.out hmap9 bs e.symm rfl)))
         clear hmap9
         refine hK.out _ _ ⟨heap_cell (HFR9.out.blk HP6.out HPE.out) rfl, g2⟩ (fun hHeld => ?_)
         clear hK K
         refine norm_ (a' := ?_) ?_ ?_
         rotate_left
         ·show Act.put _ (some 100) _ = _
          simp only [Act.put, List.setIfInBounds_toArray, List.set_cons_zero, List.set_cons_succ, i64_w, i32_w]
          rfl
         refine pure_ (i := 9) (N := some 101) (v := ?_) (a' := ?_) #[true, true, true, true, true, true, true, true, true, true, false] rfl rfl (by kernel_rfl) (fun _ _ _ h => h) (Or.inl ⟨by rfl, ?_⟩) ?_ ?_
         rotate_left
         ·intro w'
          go_simp
          with_reducible rfl
         rotate_left
         ·simp only [Act.put, List.setIfInBounds_toArray, List.set_cons_zero, List.set_cons_succ, i64_w, i32_w]
          rfl
         refine last_ (i := 10) (N := none) #[true, true, true, true, true, true, true, true, true, true, true] rfl rfl (by kernel_rfl) (by decide) (fun K hK => ?_)
         refine skip_ (w1 := ?_) (by rfl) rfl ?_ ?_
         rotate_left
         ·go_simp
          rfl
         refine hK.out _ _ ?_
         clear hK K
         refine done_ (by kernel_rfl) ?_
         have HMS10 : Aside0 (MapS (w9.setCell ⟨bo, v, none⟩ (.slice A' (j + 1) c')) bs (j + 1) (x ++ [h])) := ⟨HMS9.out.move (Below.heap_setCell _ _ _ _ (fun e => by have := HBS.out; have := HS6.out; simp at e; omega))⟩
         have HFR10 : Aside0 (Mem.Frame (fun k => k = bo) w6 (w9.setCell ⟨bo, v, none⟩ (.slice A' (j + 1) c'))) := ⟨Mem.Frame.setCell (S := fun k => k = bo) HFR9.out (p := ⟨bo, v, none⟩) rfl _⟩
         clear HFR9 HMS9 HFRD HMSD HGD HOW
         go_wp2_with fail
         go_roundw
         case rel => exact ⟨j + 1, x ++ [h], _, by go_num, by omega, by simp [hxl], HEL2, HG9, HMS10, HFR10⟩
         case measure => simp [intOf]; omega
      ·obtain rfl : j = row.length := by omega
       rw [List.drop_length] at HEL
       have HRE3 : Aside0 (fromAfter ds v row (fun x => fromRows half ds (v + 1) (r.drop (v + 1)) (o ++ [x])) (.ok x) = RES) := ⟨by rw [← HRE.out, ← HEL.out]; rfl⟩
       have hown := own_move HD6.out (w1 := wr) (fun k hk => HFR.out.block k (HD6.out.lt k hk).2 (fun e => by have := HDB.out k hk; omega))
       obtain ⟨A9, c9, e9, hrd⟩ := own_reads (k := .i64) (xs := ds) hown
       injection e9 with e91 e92 e93
       subst e91
       have hvd : v < ds.length := by rw [HDL.out]; exact HVN.out
       obtain ⟨ads, eD, hxd⟩ := hrd.at_ (v : Int) (by omega) (by omega)
       subst eD
       rw [gi_rd, Int.toNat_natCast] at hxd
       obtain ⟨y, hy⟩ : ∃ y, y = gi ds v := ⟨_, rfl⟩
       rw [← hy] at hxd
       have HY := Aside0.mk hy
       have HFIN : Aside0 (Mem.Frame (fun k => k = po) w wr) := ⟨frame_new HF6.out HFR.out HBO.out.1⟩
       clear hy HEL HRE hown hrd e92 e93
       by_cases hq : (row.length : Int) = y
       ·have t2 : ((row.length : Int) == y) = true := beq_iff_eq.2 hq
        have HRE4 : Aside0 (fromRows half ds (v + 1) (r.drop (v + 1)) (o ++ [x]) = RES) := ⟨by rw [← HRE3.out]; rw [fromAfter_ok, if_pos (by rw [← HY.out]; exact hq)]⟩
        have HOV2 : Aside0 ((o ++ [x]).length = v + 1) := ⟨by simp [HOV.out]⟩
        rw [← fill_next] at HG
        clear hq HRE3
        go_wp2_with fail
        refine (must_yes _ _ _).mono ?_
        rintro e w9 ⟨rfl, rfl⟩
        go_wp2_with fail
        go_roundw
        case rel => exact ⟨v + 1, o ++ [x], vs, by go_num, by omega, HOV2.out, HRE4, HG, HFR⟩
        case measure => simp [intOf]; omega
       ·have t2 : ((row.length : Int) == y) = false := beq_eq_false_iff_ne.2 hq
        have HRE4 : Aside0 (Except.error ((v : Int), (113 : Int)) = RES) := ⟨by rw [← HRE3.out]; rw [fromAfter_ok, if_neg (by rw [← HY.out]; exact hq)]⟩
        clear hq HRE3
        go_wp2_with fail
        refine (must_no _ _ _).mono ?_
        rintro e w9 ⟨rfl, rfl⟩
        go_wp2_with fail
        refine ⟨rfl, ?_⟩
        rw [← HRE4.out]
        exact ⟨rfl, HFIN.out⟩
    ·obtain rfl : v = r.length := by omega
     rw [List.drop_length] at HRES
     have HRES2 : Aside0 (Except.ok o = RES) := ⟨HRES.out⟩
     have hon : o.length = n := by rw [hov]; exact HM.out
     rw [fill_all hon] at HG
     have HON := Aside0.mk hon
     have HFIN : Aside0 (From1 (Except.ok o) po w (.returned (.tuple #[])) wr) := ⟨rfl, frame_new HF6.out HFR.out HBO.out.1, bo, vs, HG.out, by rw [hon]; exact HFR.out.blk HP6.out (fun e => by have := HBO.out.2.2.2.1; omega), HBO.out.1⟩
     clear HRES hon hov
     go_wp2_with fail
     go_end0
     rw [← HRES2.out]
     exact HFIN.out
end Go.Proofs.Ytkkhhbegeboonaa.Rot
namespace Go.Proofs.Ytkkhhbegeboonaa.Rot
open Go.RowKit Go.Proofs.YtkkhhbegeboonaaW.PrintWords Go.Proofs.YtkkhhbegeboonaaW.PrintLast Go.Proofs.Ytkkhhbegeboonaa.Mem
set_option linter.unusedVariables false
set_option linter.unusedSimpArgs false
theorem _root_.Go.Proofs.Ytkkhhbegeboonaa.Mem.Rows2.framed {S : Nat → Prop} {w w1 : World} {B bo : Nat} {vs : List Value} {gs : List (List Int)} (h : Rows2 w B bo vs gs) (hf : Mem.Frame S w w1) (hS : ∀ k, S k → k < bo ∧ k < B) : Rows2 w1 B bo vs gs :=
 ⟨h.len, hf.blk h.out (fun e => by have := (hS _ e).1; omega), fun j hj => own_move (h.own j hj) (fun k hk => hf.block k ((h.own j hj).lt k hk).2 (fun e => by have := (hS _ e).2; have := ((h.own j hj).lt k hk).1; omega)), h.col, Nat.le_trans h.base hf.size⟩
theorem walkRow_err (half : Int × Int → Option Int) (v : Int) : ∀ (t o : List Int) (e : Int), walkRow half v t o = .error e → e = 111 ∨ e = 112
 | [], o, e, h => by cases h
 | u :: t, o, e, h => by
  cases hh : half (v, u) with
  | none => rw [walkRow_none hh] at h; injection h with h; exact .inl h.symm
  | some x =>
   by_cases hm : x ∈ o
   ·rw [walkRow_twice hh hm] at h; injection h with h; exact .inr h.symm
   ·rw [walkRow_on hh hm] at h; exact walkRow_err half v t _ e h
theorem fromRows_err (half : Int × Int → Option Int) (ds : List Int) : ∀ (v : Nat) (r o : List (List Int)) (ve : Int × Int), fromRows half ds v r o = .error ve → ve.2 ≠ 0
 | v, [], o, ve, h => by cases h
 | v, row :: r, o, ve, h => by
  rw [fromRows_cons] at h
  cases hw : walkRow half v row [] with
  | error e =>
   rw [hw] at h
   have h2 : (Except.error ((v : Int), e) : Except (Int × Int) (List (List Int))) = .error ve := h
   injection h2 with h2
   have := walkRow_err half v row [] e hw
   rw [← h2]
   show e ≠ 0
   omega
  | ok x =>
   rw [hw, fromAfter_ok] at h
   split at h
   ·exact fromRows_err half ds (v + 1) r _ ve h
   ·injection h with h; rw [← h]; show (113 : Int) ≠ 0; decide
theorem fromRows_len (half : Int × Int → Option Int) (ds : List Int) : ∀ (v : Nat) (r o o' : List (List Int)), fromRows half ds v r o = .ok o' → o'.length = o.length + r.length
 | v, [], o, o', h => by
  have h2 : (Except.ok o : Except (Int × Int) (List (List Int))) = .ok o' := h
  injection h2 with h2; rw [← h2]; rfl
 | v, row :: r, o, o', h => by
  rw [fromRows_cons] at h
  cases hw : walkRow half v row [] with
  | error e => rw [hw] at h; cases h
  | ok x =>
   rw [hw, fromAfter_ok] at h
   split at h
   ·have := fromRows_len half ds (v + 1) r _ o' h
    simp at this ⊢; omega
   ·cases h
def FromSays (res : Except (Int × Int) (List (List Int))) (n : Int) (A : Option Addr) (l c : Nat) (Ar : Option Addr) (m cr : Nat) (w : World) : Prop := ∀ (W : World) (pg pa po : Nat), Below w.heap.size w W → W.heap[pg]? = some (.cells #[.int .i64 n, .slice A l c] 24 (0, 0)) → W.heap[pa]? = some (.cells #[.slice Ar m cr] 25 (0, 0)) →
 W.heap[po]? = some (.cells #[.slice none 0 0] 26 (0, 0)) → w.heap.size ≤ po → pg ≠ po → pa ≠ po →
 Calls Try.prog 42 #[.pointer (some ⟨pg, 0, none⟩), .pointer (some ⟨pa, 0, none⟩), .pointer (some ⟨po, 0, none⟩)] W fun z w' => From1 res po W z w'
set_option maxHeartbeats 1000000 in
set_option maxRecDepth 100000 in
theorem from_fault (v e : Int) (he : e ≠ 0) (n : Int) (A : Option Addr) (l c : Nat) (Ar : Option Addr) (m cr : Nat) (w : World) (hc : FromSays (.error (v, e)) n A l c Ar m cr w) :
  Calls Try.prog 22 #[.agg #[.int .i64 n, .slice A l c], .slice Ar m cr] w fun z w' => z = .returned (.tuple #[.slice none 0 0, .int .i64 v, .int .i64 e]) ∧ Below w.heap.size w w' := by
 have hne : (e != 0) = true := bne_iff_ne.2 he
 have hmf : ∀ (fn : Fn) (first cap : Array Value) (w : World), (Instr.makeFunc fn first cap).run Try.prog w = .ok (.func fn first cap) w := fun _ _ _ _ => rfl
 have HB := Aside0.mk ((((Below.refl w.heap.size w).alloc (Nat.le_refl _) (.cells #[.int .i64 n, .slice A l c] 24 (0, 0))).alloc (by simp) (.cells #[.slice Ar m cr] 25 (0, 0))).alloc (by simp; omega) (.cells #[.slice none 0 0] 26 (0, 0)))
 have HX := Aside0.mk (heap_old (heap_old (heap_last w (.cells #[.int .i64 n, .slice A l c] 24 (0, 0))) (.cells #[.slice Ar m cr] 25 (0, 0))) (.cells #[.slice none 0 0] 26 (0, 0)))
 have HY : Aside0 ((((w.alloc (.cells #[.int .i64 n, .slice A l c] 24 (0, 0))).alloc (.cells #[.slice Ar m cr] 25 (0, 0))).alloc (.cells #[.slice none 0 0] 26 (0, 0))).heap[w.heap.size + 1]? = some (.cells #[.slice Ar m cr] 25 (0, 0))) := ⟨by
  have h := heap_old (heap_last (w.alloc (.cells #[.int .i64 n, .slice A l c] 24 (0, 0))) (.cells #[.slice Ar m cr] 25 (0, 0))) (.cells #[.slice none 0 0] 26 (0, 0))
  rw [show (w.alloc (.cells #[.int .i64 n, .slice A l c] 24 (0, 0))).heap.size = w.heap.size + 1 by simp] at h
  exact h⟩
 have HZ : Aside0 ((((w.alloc (.cells #[.int .i64 n, .slice A l c] 24 (0, 0))).alloc (.cells #[.slice Ar m cr] 25 (0, 0))).alloc (.cells #[.slice none 0 0] 26 (0, 0))).heap[w.heap.size + 2]? = some (.cells #[.slice none 0 0] 26 (0, 0))) := ⟨by
  have h := heap_last ((w.alloc (.cells #[.int .i64 n, .slice A l c] 24 (0, 0))).alloc (.cells #[.slice Ar m cr] 25 (0, 0))) (.cells #[.slice none 0 0] 26 (0, 0))
  rw [show ((w.alloc (.cells #[.int .i64 n, .slice A l c] 24 (0, 0))).alloc (.cells #[.slice Ar m cr] 25 (0, 0))).heap.size = w.heap.size + 2 by simp] at h
  exact h⟩
 have HC := Aside0.mk hc
 clear hc
 go_enter Try.func22, Try.ntmps22
 go_wp2_with fail
 generalize ((w.alloc (.cells #[.int .i64 n, .slice A l c] 24 (0, 0))).alloc (.cells #[.slice Ar m cr] 25 (0, 0))).alloc (.cells #[.slice none 0 0] 26 (0, 0)) = w1 at HB HX HY HZ ⊢
 have hk : ∀ W, (callFunc 42 #[.pointer (some ⟨w.heap.size, 0, none⟩), .pointer (some ⟨w.heap.size + 1, 0, none⟩), .pointer (some ⟨w.heap.size + 2, 0, none⟩)]).run Try.prog W = .ok (.enter 42 #[.pointer (some ⟨w.heap.size, 0, none⟩), .pointer (some ⟨w.heap.size + 1, 0, none⟩), .pointer (some ⟨w.heap.size + 2, 0, none⟩)]) W := fun W => by kernel_rfl
 have hb1 := wCaught_below w1
 have hcl := HC.out (wCaught w1) w.heap.size (w.heap.size + 1) (w.heap.size + 2) (HB.out.trans (hb1.mono HB.out.size)) ((hb1.block _ (lt_of HX.out)).trans HX.out) ((hb1.block _ (lt_of HY.out)).trans HY.out) ((hb1.block _ (lt_of HZ.out)).trans HZ.out) (by omega) (by omega) (by omega)
 have hlt := lt_of HZ.out
 have hgp : ∀ w2, Mem.Frame (fun k => k = w.heap.size + 2) (wCaught w1) w2 → w2.heap[w1.heap.size]? = some (.cells #[.int .i64 0] 3 (0, 0)) ∧ w2.heap[w1.heap.size + 1]? = some (.cells #[.int .i64 0] 29 (0, 0)) := fun w2 h2 => ⟨(h2.block _ (by rw [wCaught_size]; omega) (by omega)).trans (wCaught_own w1).1, (h2.block _ (by rw [wCaught_size]; omega) (by omega)).trans (wCaught_own w1).2⟩
 have hfin : ∀ w2 w', Mem.Frame (fun k => k = w.heap.size + 2) (wCaught w1) w2 → Two w1 w2 w' → Below w.heap.size w w' := fun w2 w' h2 h3 => by
  have h4 := HB.out.trans (hb1.mono HB.out.size)
  have h5 : Below w.heap.size (wCaught w1) w2 := h2.below h4.size (fun k hk => by omega)
  have h6 : Below w.heap.size w2 w' := h3.below (Nat.le_trans h4.size h2.size) (fun k hk => by omega)
  exact (h4.trans h5).trans h6
 have HFIN := Aside0.mk hfin
 have HLT := Aside0.mk hlt
 refine (caught_fault 42 _ w1 v e _ hk (hcl.mono fun z w2 h => ⟨h.1, h.2⟩) hgp).mono ?_
 rintro z w' ⟨rfl, w2, h2, h3⟩
 have HE := Aside0.mk (HFIN.out w2 w' h2 h3)
 clear h2 h3 hgp hfin hcl hb1 hk HC hlt
 go_wp2_with fail
 go_ret3
 exact ⟨rfl, HE.out⟩
set_option maxHeartbeats 1000000 in
set_option maxRecDepth 100000 in
theorem from_ok (o : List (List Int)) (ho : o.length ≤ 1048576) (n : Int) (A : Option Addr) (l c : Nat) (Ar : Option Addr) (m cr : Nat) (w : World) (hc : FromSays (.ok o) n A l c Ar m cr w) :
  Calls Try.prog 22 #[.agg #[.int .i64 n, .slice A l c], .slice Ar m cr] w fun z w' => ∃ v, z = .returned (.tuple #[v, .int .i64 0, .int .i64 0]) ∧ Kd.S KR 28 w' w.heap.size (fun _ => True) v o ∧ Below w.heap.size w w' := by
 have hmf : ∀ (fn : Fn) (first cap : Array Value) (w : World), (Instr.makeFunc fn first cap).run Try.prog w = .ok (.func fn first cap) w := fun _ _ _ _ => rfl
 have HB := Aside0.mk ((((Below.refl w.heap.size w).alloc (Nat.le_refl _) (.cells #[.int .i64 n, .slice A l c] 24 (0, 0))).alloc (by simp) (.cells #[.slice Ar m cr] 25 (0, 0))).alloc (by simp; omega) (.cells #[.slice none 0 0] 26 (0, 0)))
 have HX := Aside0.mk (heap_old (heap_old (heap_last w (.cells #[.int .i64 n, .slice A l c] 24 (0, 0))) (.cells #[.slice Ar m cr] 25 (0, 0))) (.cells #[.slice none 0 0] 26 (0, 0)))
 have HY : Aside0 ((((w.alloc (.cells #[.int .i64 n, .slice A l c] 24 (0, 0))).alloc (.cells #[.slice Ar m cr] 25 (0, 0))).alloc (.cells #[.slice none 0 0] 26 (0, 0))).heap[w.heap.size + 1]? = some (.cells #[.slice Ar m cr] 25 (0, 0))) := ⟨by
  have h := heap_old (heap_last (w.alloc (.cells #[.int .i64 n, .slice A l c] 24 (0, 0))) (.cells #[.slice Ar m cr] 25 (0, 0))) (.cells #[.slice none 0 0] 26 (0, 0))
  rw [show (w.alloc (.cells #[.int .i64 n, .slice A l c] 24 (0, 0))).heap.size = w.heap.size + 1 by simp] at h
  exact h⟩
 have HZ : Aside0 ((((w.alloc (.cells #[.int .i64 n, .slice A l c] 24 (0, 0))).alloc (.cells #[.slice Ar m cr] 25 (0, 0))).alloc (.cells #[.slice none 0 0] 26 (0, 0))).heap[w.heap.size + 2]? = some (.cells #[.slice none 0 0] 26 (0, 0))) := ⟨by
  have h := heap_last ((w.alloc (.cells #[.int .i64 n, .slice A l c] 24 (0, 0))).alloc (.cells #[.slice Ar m cr] 25 (0, 0))) (.cells #[.slice none 0 0] 26 (0, 0))
  rw [show ((w.alloc (.cells #[.int .i64 n, .slice A l c] 24 (0, 0))).alloc (.cells #[.slice Ar m cr] 25 (0, 0))).heap.size = w.heap.size + 2 by simp] at h
  exact h⟩
 have HC := Aside0.mk hc
 clear hc
 go_enter Try.func22, Try.ntmps22
 go_wp2_with fail
 generalize ((w.alloc (.cells #[.int .i64 n, .slice A l c] 24 (0, 0))).alloc (.cells #[.slice Ar m cr] 25 (0, 0))).alloc (.cells #[.slice none 0 0] 26 (0, 0)) = w1 at HB HX HY HZ ⊢
 have hk : ∀ W, (callFunc 42 #[.pointer (some ⟨w.heap.size, 0, none⟩), .pointer (some ⟨w.heap.size + 1, 0, none⟩), .pointer (some ⟨w.heap.size + 2, 0, none⟩)]).run Try.prog W = .ok (.enter 42 #[.pointer (some ⟨w.heap.size, 0, none⟩), .pointer (some ⟨w.heap.size + 1, 0, none⟩), .pointer (some ⟨w.heap.size + 2, 0, none⟩)]) W := fun W => by kernel_rfl
 have hb1 := wCaught_below w1
 have hcl := HC.out (wCaught w1) w.heap.size (w.heap.size + 1) (w.heap.size + 2) (HB.out.trans (hb1.mono HB.out.size)) ((hb1.block _ (lt_of HX.out)).trans HX.out) ((hb1.block _ (lt_of HY.out)).trans HY.out) ((hb1.block _ (lt_of HZ.out)).trans HZ.out) (by omega) (by omega) (by omega)
 have hlt := lt_of HZ.out
 have hgp : ∀ w2, Mem.Frame (fun k => k = w.heap.size + 2) (wCaught w1) w2 → w2.heap[w1.heap.size]? = some (.cells #[.int .i64 0] 3 (0, 0)) ∧ w2.heap[w1.heap.size + 1]? = some (.cells #[.int .i64 0] 29 (0, 0)) := fun w2 h2 => ⟨(h2.block _ (by rw [wCaught_size]; omega) (by omega)).trans (wCaught_own w1).1, (h2.block _ (by rw [wCaught_size]; omega) (by omega)).trans (wCaught_own w1).2⟩
 have hfin : ∀ w2 w', Mem.Frame (fun k => k = w.heap.size + 2) (wCaught w1) w2 → Two w1 w2 w' → Below w.heap.size w w' := fun w2 w' h2 h3 => by
  have h4 := HB.out.trans (hb1.mono HB.out.size)
  have h5 : Below w.heap.size (wCaught w1) w2 := h2.below h4.size (fun k hk => by omega)
  have h6 : Below w.heap.size w2 w' := h3.below (Nat.le_trans h4.size h2.size) (fun k hk => by omega)
  exact (h4.trans h5).trans h6
 have HFIN := Aside0.mk hfin
 have HLT := Aside0.mk hlt
 refine (caught_ok 42 _ w1 (fun w2 => Mem.Frame (fun k => k = w.heap.size + 2) (wCaught w1) w2 ∧ Filled (w.heap.size + 2) o (wCaught w1) w2) hk (hcl.mono fun z w2 h => ⟨h.1, h.2⟩) (fun w2 h => hgp w2 h.1)).mono ?_
 rintro z w' ⟨rfl, w2, ⟨h2, bo, vs, h4, h5, h6⟩, h3⟩
 have HE := Aside0.mk (HFIN.out w2 w' h2 h3)
 rw [wCaught_size] at h6
 have hlt2 := HLT.out
 have hR : Rows2 w' (bo + 1) bo vs o := h4.framed h3 (fun k hk => by omega)
 have hp : w'.heap[w.heap.size + 2]? = some (.cells #[.slice (some ⟨bo, 0, none⟩) o.length o.length] 26 (0, 0)) := Mem.Frame.blk h3 h5 (fun hk => by omega)
 have HS := Aside0.mk (hR.tells (base := w.heap.size) (by omega) (by omega) (by omega))
 have y0 : w'.cell? ⟨w.heap.size + 2, 0, none⟩ = some (.slice (some ⟨bo, 0, none⟩) o.length o.length) := heap_cell hp rfl
 clear h2 h3 h4 h5 h6 hR hp hgp hfin hcl hb1 hk HC hlt hlt2
 go_wp2_with fail
 go_ret3
 exact ⟨_, rfl, HS.out, HE.out⟩
end Go.Proofs.Ytkkhhbegeboonaa.Rot
namespace Go.Proofs.Ytkkhhbegeboonaa.Rot
open Go.RowKit Go.Proofs.YtkkhhbegeboonaaW.PrintWords Go.Proofs.YtkkhhbegeboonaaW.PrintLast Go.Proofs.YtkkhhbegeboonaaW.PrintMore Go.Proofs.Ytkkhhbegeboonaa.Mem
set_option linter.unusedVariables false
set_option linter.unusedSimpArgs false
set_option maxHeartbeats 1000000 in
set_option maxRecDepth 100000 in
theorem clone_calls (A : Option Addr) (c : Nat) (l : List Int) (w : World) (hl : Kd.C (Kd.int .i64) w A l.length l) (hc : l.length ≤ c) (hb : l.length * 8 ≤ 140737488355328) :
  Calls Try.prog 50 #[.slice A l.length c] w fun e w' => ∃ v, e = .returned v ∧ Kd.R (Kd.int .i64) 3 w' w.heap.size (fun _ => True) v l ∧ Below w.heap.size w w' := by
 have qT : ∀ (w : World) (a : Option Addr) (n c n' c' : Nat), (binOp .eql 28 (.slice a n c) (.slice none n' c')).run Try.prog w = .ok (.bool a.isNone) w := fun w a n c n' c' => Lib.run_eql_slice_nil w _ _ a n c n' c' Try.underlying28
 cases A with
 | none =>
  have hz : l = [] := by
   rcases Nat.eq_zero_or_pos l.length with h | h
   ·exact List.eq_nil_of_length_eq_zero h
   ·obtain ⟨ad, e, _⟩ := hl.2.2 h
    cases e
  subst hz
  have hn : (none : Option Addr).isNone = true := rfl
  clear hl
  go_enter Try.func50, Try.ntmps50
  go_wp2_with fail
  go_ret
  exact ⟨_, rfl, Kd.R_nil _ _ _ _ _, Below.refl _ _⟩
 | some ad =>
  have hn : (some ad : Option Addr).isNone = false := rfl
  have HB := Aside0.mk ((Below.refl w.heap.size w).alloc (Nat.le_refl _) (.cells #[] 3 (0, 0)))
  have HO : Aside0 (Kd.R (Kd.int .i64) 3 (w.alloc (.cells #[] 3 (0, 0))) w.heap.size (fun _ => True) (.slice (some ⟨w.heap.size, 0, none⟩) 0 0) []) := ⟨Kd.R_of_own (World.ownsRow_lit (base := w.heap.size) (size := 1) (e := 3) w #[] 0 (Nat.le_refl _) (by unfold maxLen; omega) rfl) (fun _ _ => trivial)⟩
  have HL := Aside0.mk (Kd.C_below hl ((Below.refl w.heap.size w).alloc (Nat.le_refl _) (.cells #[] 3 (0, 0))))
  clear hl
  go_enter Try.func50, Try.ntmps50
  go_wp2_with (at_builtin; go_loud (refine Kd.R_append_rows (Kd.int .i64) (Rr := (Kd.int .i64).K (w.alloc (.cells #[] 3 (0, 0)))) (w0 := w) (W := w.alloc (.cells #[] 3 (0, 0))) w.heap.size rfl _ _ 28 3 (.int .i64 0) 8 rfl Try.underlying28 info_int rfl (by decide) (by decide) (.slice (some ⟨w.heap.size, 0, none⟩) 0 0) [] l (some ad) l.length c (fun _ => True) (fun _ => False) rfl rfl HO.out HL.out (fun _ _ h => h) (fun _ h => h.elim) (fun _ _ => trivial) HB.out HB.out.size (by simpa using hb) ?_))
  intro v1 w1 hR hb1 _ _
  obtain ⟨B1, c1, rfl, _, _⟩ := Kd.R_reads hR
  have HO1 := Aside0.mk hR
  have HB1 := Aside0.mk hb1
  clear hR hb1 HO HB HL qT hn
  go_wp2_with fail
  go_ret
  exact ⟨_, rfl, HO1.out, HB1.out⟩
def ReverseSays (r : List (List Int)) : Prop := ∀ (j : Nat) (v : Value) (W0 W : World), j < r.length → Below W0.heap.size W0 W → Kd.R (Kd.int .i64) 3 W W0.heap.size (fun k => v.ownBlock = some k) v (gl r j) →
 Calls Try.prog 51 #[v] W fun e w' => e = .returned (.tuple #[]) ∧ w'.ownsRow W0.heap.size 3 1 v (gl r j).length (encs (Value.int .i64) (gl r j).reverse) ∧ W.heap.size ≤ w'.heap.size ∧ (∀ b, b < W.heap.size → v.ownBlock ≠ some b → w'.heap[b]? = W.heap[b]?) ∧ Below W0.heap.size W0 w'
def revTo (r : List (List Int)) (i : Nat) : List (List Int) := (r.take i).map List.reverse ++ List.replicate (r.length - i) []
theorem revTo_length (r : List (List Int)) {i : Nat} (h : i ≤ r.length) : (revTo r i).length = r.length := by simp [revTo]; omega
theorem revTo_set {r : List (List Int)} {i : Nat} (h : i < r.length) (x : List Int) : ((revTo r i).set i x).set i (gl r i).reverse = revTo r (i + 1) := by
 unfold revTo
 have e1 : ((r.take i).map List.reverse).length = i := by simp; omega
 rw [List.set_append_right _ _ (by omega), e1, Nat.sub_self, show r.length - i = (r.length - (i + 1)) + 1 by omega, List.replicate_succ, List.set_cons_zero, List.set_append_right _ _ (by omega), e1, Nat.sub_self, List.set_cons_zero, List.take_succ_eq_append_getElem h, List.map_append, List.append_assoc]
 simp [gl, List.getD_eq_getElem?_getD, h]
theorem revTo_all (r : List (List Int)) : revTo r r.length = r.map List.reverse := by simp [revTo]
set_option maxHeartbeats 1000000 in
set_option maxRecDepth 100000 in
theorem mirror_calls (A : Option Addr) (c : Nat) (r : List (List Int)) (w : World) (hr : Kd.C KR w A r.length r) (hn : r.length * 24 ≤ 140737488355328) (hb : ∀ j, j < r.length → (gl r j).length * 8 ≤ 140737488355328) (hrs : ReverseSays r) (hls : LeastSays (r.map List.reverse)) :
  Calls Try.prog 27 #[.slice A r.length c] w fun e w' => ∃ v, e = .returned v ∧ Kd.S KR 28 w' w.heap.size (fun _ => True) v ((r.map List.reverse).map turnl) ∧ Below w.heap.size w w' := by
 have HR := Aside0.mk hr
 have HL := Aside0.mk hls
 have HV := Aside0.mk hrs
 have HBD := Aside0.mk hb
 clear hr hls hb hrs
 have mk1 := print_make_of (P := Try.prog) 26 28 (.slice none 0 0) 24 Try.underlying26 info_ints rfl (by decide) r.length (by omega)
 rw [made_nil] at mk1
 go_enter Try.func27, Try.ntmps27
 go_wp2_with fail
 clear mk1
 have HG := Aside0.mk ((Rows2.start w r.length).lower (Nat.le_succ _))
 have HB : Aside0 (Below w.heap.size w (w.alloc (.cells (Array.replicate r.length (Value.slice none 0 0)) 28 (0, 0)))) := ⟨(Below.refl _ _).alloc (Nat.le_refl _) _⟩
 rw [show List.replicate r.length [] = revTo r 0 by simp [revTo]] at HG
 generalize w.alloc (.cells (Array.replicate r.length (Value.slice none 0 0)) 28 (0, 0)) = w1 at HG HB ⊢
 obtain ⟨bo, hbo⟩ : ∃ bo, bo = w.heap.size := ⟨_, rfl⟩
 have HG : Aside0 (Rows2 w1 w.heap.size bo (List.replicate r.length (.slice none 0 0)) (revTo r 0)) := ⟨by rw [hbo]; exact HG.out⟩
 rw [← hbo]
 have hbo2 : w.heap.size ≤ bo := by omega
 clear hbo
 go_loopw [11] (fun y wr => ∃ (i : Nat) (vs : List Value), y = .int .i64 (i : Int) ∧ i ≤ r.length ∧ Aside0 (Rows2 wr w.heap.size bo vs (revTo r i)) ∧ Aside0 (Below w.heap.size w wr)) (fun y _ => r.length - (intOf y).toNat)
 case atStart => exact ⟨0, _, rfl, by omega, HG, HB⟩
 case round =>
  clear HG HB
  obtain ⟨i, vs, rfl, hi, HG, HB⟩ := hrel
  by_cases hlt : i < r.length
  ·obtain ⟨ad, D, cD, eA, hx, hcD, hrow⟩ := row_at (Kd.C_below HR.out HB.out) hlt
   subst eA
   have HROW := Aside0.mk hrow
   have hbd := HBD.out i hlt
   have HRS := Aside0.mk (HV.out i)
   have HST := Aside0.mk (revTo_set hlt (gl r i))
   have HCL := Aside0.mk (revTo_length r hi)
   obtain ⟨row, hrw⟩ : ∃ row, row = gl r i := ⟨_, rfl⟩
   rw [← hrw] at hx hcD HROW hbd HRS HST
   have hbig := C_le HROW.out
   clear hrow hrw
   go_wp2_with fail
   refine (clone_calls D cD row wr HROW.out hcD hbd).mono ?_
   rintro e w3 ⟨v3, rfl, hR3, hb3⟩
   obtain ⟨A3, c3, rfl, _, _⟩ := Kd.R_reads hR3
   have ho3 := Kd.own_of_R hR3
   have HG3 := Aside0.mk (HG.out.put hb3 (by rw [HCL.out]; exact hlt) (g' := row) ho3)
   have HB3 : Aside0 (Below w.heap.size w (w3.setCell ⟨bo, i, none⟩ (.slice A3 row.length c3))) := ⟨(HB.out.trans (hb3.mono HB.out.size)).setCell (p := ⟨bo, i, none⟩) hbo2 _⟩
   have hG3 := HG.out.below hb3
   have g1 := hG3.cell (j := i) (by rw [HCL.out]; exact hlt)
   have g2 := hG3.free i
   have hbw : bo < wr.heap.size := lt_of HG.out.out
   have HRW : Aside0 (Kd.R (Kd.int .i64) 3 (w3.setCell ⟨bo, i, none⟩ (.slice A3 row.length c3)) w.heap.size (fun k => (Value.slice A3 row.length c3).ownBlock = some k) (.slice A3 row.length c3) row) := ⟨Kd.R_of_own (own_low (own_move ho3 (fun q hq => Below.heap_setCell _ _ _ _ (fun e => by have := (ho3.lt q hq).1; simp at e; omega))) (by omega)) (fun k hk => hk)⟩
   have hwz := HB.out.size
   clear hR3 hb3 ho3 hG3 HG HB
   go_wp2_with fail
   refine (HRS.out (.slice A3 row.length c3) w _ hlt HB3.out HRW.out).mono ?_
   rintro e w5 ⟨rfl, ho5, hs5, hk5, hb5⟩
   have hvs : i < vs.length := by have := HG3.out.len; rw [List.length_set, List.length_set, HCL.out] at this; omega
   have hvl : (va (vs.set i (.slice A3 row.length c3)) i) = .slice A3 row.length c3 := by rw [va_set, if_pos ⟨rfl, hvs⟩]
   have HG5 : Aside0 (Rows2 w5 w.heap.size bo (vs.set i (.slice A3 row.length c3)) (revTo r (i + 1))) := ⟨by
    have h := HG3.out.edit hs5 (k := i) (by rw [List.length_set, HCL.out]; exact hlt) (by rw [hvl]; exact hk5) (g' := row.reverse) (by rw [hvl, List.length_reverse]; exact ho5)
    rw [HST.out] at h
    exact h⟩
   have HB5 := Aside0.mk hb5
   clear ho5 hs5 hk5 hb5 hvl hvs HG3 HB3 HRW g1 g2
   go_wp2_with fail
   go_roundw
   case rel => exact ⟨i + 1, _, by go_num, by omega, HG5, HB5⟩
   case measure => simp [intOf]; omega
  ·obtain rfl : i = r.length := by omega
   have hz := HG.out.tells (base := w.heap.size) hbo2 (Nat.le_refl _) (by rw [revTo_length r (Nat.le_refl _)]; omega)
   rw [revTo_length r (Nat.le_refl _), revTo_all] at hz
   have hC := (Kd.S_reads' hz).2.2
   have hlm : (r.map List.reverse).length = r.length := List.length_map ..
   have hc := canon_calls (some ⟨bo, 0, none⟩) r.length (r.map List.reverse) wr hC (by rw [hlm]; exact hn) (fun j hj => by
    have h := HBD.out j (by rw [hlm] at hj; exact hj)
    rw [hlm] at hj
    have e : gl (r.map List.reverse) j = (gl r j).reverse := by unfold gl; simp [List.getD_eq_getElem?_getD, hj]
    rw [e, List.length_reverse]
    exact h) HL.out
   rw [hlm] at hc
   have HC := Aside0.mk hc
   clear hz hC hc hlm HG
   go_wp2_with fail
   refine (HC.out).mono ?_
   rintro e w5 ⟨v5, rfl, hS5, hb5⟩
   have hS6 := Kd.S_lower hS5 HB.out.size
   have HB5 := Aside0.mk (HB.out.trans (hb5.mono HB.out.size))
   obtain ⟨A5, c5, hv5, _, _⟩ := Kd.S_reads hS5
   rw [show (List.map turnl (List.map List.reverse r)).length = r.length by simp] at hv5
   subst hv5
   have HS5 := Aside0.mk hS6
   clear hS6
   clear hS5 hb5
   go_wp2_with fail
   go_ret
   exact ⟨_, rfl, HS5.out, HB5.out⟩
end Go.Proofs.Ytkkhhbegeboonaa.Rot
namespace Go.Proofs.Ytkkhhbegeboonaa.Rot
open Go.RowKit Go.Proofs.YtkkhhbegeboonaaW.PrintWords Go.Proofs.YtkkhhbegeboonaaW.PrintLast Go.Proofs.YtkkhhbegeboonaaW.PrintMore Go.Proofs.Ytkkhhbegeboonaa.Mem
set_option linter.unusedVariables false
set_option linter.unusedSimpArgs false
def EqualSays : Prop := ∀ (X Y : List Int) (A B : Option Addr) (ca cb : Nat) (W : World), Kd.C (Kd.int .i64) W A X.length X → X.length ≤ ca → Kd.C (Kd.int .i64) W B Y.length Y → Y.length ≤ cb →
 Calls Try.prog 58 #[.slice A X.length ca, .slice B Y.length cb] W fun e w' => e = .returned (.bool (decide (X = Y))) ∧ Drawn0 W w'
def turnTest (a b : List Int) (k : Nat) : Bool := decide (a.drop k = b.take (b.length - k)) && decide (a.take k = b.drop (b.length - k))
def turnOf (a b : List Int) : Bool := decide (a.length = b.length) && ((List.range a.length).any (turnTest a b) || decide (a.length = 0))
def sameOf (x y : List (List Int)) : Bool := decide (x.length = y.length) && (List.range x.length).all fun j => turnOf (gl x j) (gl y j)
end Go.Proofs.Ytkkhhbegeboonaa.Rot
namespace Go.Proofs.Ytkkhhbegeboonaa.ValH
open Go.RowKit Go.Proofs.YtkkhhbegeboonaaW.PrintWords Go.Proofs.YtkkhhbegeboonaaW.PrintLast Go.Proofs.YtkkhhbegeboonaaW.PrintMore Go.Proofs.Ytkkhhbegeboonaa.Mem
set_option linter.unusedVariables false
set_option linter.unusedSimpArgs false
abbrev P2 := Int × Int
def okP (n : Int) (p : P2) : Bool := decide (0 ≤ p.1 ∧ p.1 < p.2 ∧ p.2 < n)
def ltP (p q : P2) : Bool := decide (p.1 < q.1 ∨ (p.1 = q.1 ∧ p.2 < q.2))
def goodRest (n : Int) : List P2 → Bool
 | [] => true
 | [p] => okP n p
 | p :: q :: t => okP n p && (ltP p q && goodRest n (q :: t))
def goodB (n : Int) (es : List P2) : Bool := decide (0 ≤ n ∧ n ≤ 1048576 ∧ es.length ≤ 4194304) && goodRest n es
def OkAt (n : Int) (es : List P2) (i : Nat) : Prop := okP n (pe es i) = true ∧ (0 < i → ltP (pe es (i - 1)) (pe es i) = true)
theorem pe_succ (p : P2) (es : List P2) (i : Nat) : pe (p :: es) (i + 1) = pe es i := by unfold pe; simp
theorem pe_zero (p : P2) (es : List P2) : pe (p :: es) 0 = p := by unfold pe; simp
theorem goodRest_iff (n : Int) : ∀ es : List P2, goodRest n es = true ↔ ∀ i, i < es.length → OkAt n es i
 | [] => ⟨fun _ i h => absurd h (by simp), fun _ => rfl⟩
 | [p] => by
  constructor
  ·intro h i hi
   have : i = 0 := by simpa using hi
   subst this
   exact ⟨by rw [pe_zero]; exact h, fun h => absurd h (by omega)⟩
  ·intro h
   have := (h 0 (by simp)).1
   rw [pe_zero] at this
   exact this
 | p :: q :: t => by
  have ih := goodRest_iff n (q :: t)
  show (okP n p && (ltP p q && goodRest n (q :: t))) = true ↔ _
  rw [Bool.and_eq_true, Bool.and_eq_true, ih]
  constructor
  ·rintro ⟨h1, h2, h3⟩ i hi
   cases i with
   | zero => exact ⟨by rw [pe_zero]; exact h1, fun h => absurd h (by omega)⟩
   | succ i =>
    have := h3 i (by simpa using hi)
    refine ⟨by rw [pe_succ]; exact this.1, fun _ => ?_⟩
    cases i with
    | zero => rw [pe_succ, pe_zero]; exact h2
    | succ i =>
     have h4 := this.2 (by omega)
     rw [Nat.add_sub_cancel] at h4 ⊢
     rw [pe_succ, pe_succ]; exact h4
  ·intro h
   have h0 := h 0 (by simp)
   have h1 := h 1 (by simp)
   have h01 := h0.1
   rw [pe_zero] at h01
   refine ⟨h01, ?_, fun i hi => ?_⟩
   ·have := h1.2 (by omega)
    rw [Nat.sub_self, pe_zero, pe_succ p (q :: t) 0, pe_zero] at this
    exact this
   ·have h2 := h (i + 1) (by simpa using hi)
    rw [OkAt, pe_succ] at h2
    refine ⟨h2.1, fun h3 => ?_⟩
    have := h2.2 (by omega)
    rw [show i + 1 - 1 = (i - 1) + 1 by omega, pe_succ] at this
    exact this
theorem goodB_iff (n : Int) (es : List P2) : goodB n es = true ↔ 0 ≤ n ∧ n ≤ 1048576 ∧ es.length ≤ 4194304 ∧ ∀ i, i < es.length → OkAt n es i := by
 unfold goodB
 rw [Bool.and_eq_true, decide_eq_true_eq, goodRest_iff]
 constructor
 ·rintro ⟨⟨a, b, c⟩, d⟩; exact ⟨a, b, c, d⟩
 ·rintro ⟨a, b, c, d⟩; exact ⟨⟨a, b, c⟩, d⟩
theorem goodB_no {n : Int} {es : List P2} (h : ¬ (0 ≤ n ∧ n ≤ 1048576 ∧ es.length ≤ 4194304 ∧ ∀ i, i < es.length → OkAt n es i)) : goodB n es = false := by
 cases e : goodB n es with
 | false => rfl
 | true => exact absurd ((goodB_iff n es).1 e) h
theorem below_drewN {B : Nat} {w w' : World} (h : Below B w w') (n : Nat) : Below B w (w'.drewN n) := ⟨h.os, h.tape, h.output, h.size, h.block⟩
def cmpI (a b c d : Int) : Int := if a = c then b - d else a - c
theorem cmpI_lt {a b c d : Int} : cmpI a b c d < 0 ↔ ltP (a, b) (c, d) = true := by
 unfold cmpI ltP
 rw [decide_eq_true_eq]
 split <;> simp only <;> omega
set_option maxHeartbeats 1000000 in
set_option maxRecDepth 100000 in
theorem compare_calls (a b c d : Int) (w : World) (ha : 0 ≤ a ∧ a ≤ 1048576) (hb : 0 ≤ b ∧ b ≤ 1048576) (hc : 0 ≤ c ∧ c ≤ 1048576) (hd : 0 ≤ d ∧ d ≤ 1048576) :
  Calls Try.prog 56 #[.agg #[.int .i64 a, .int .i64 b], .agg #[.int .i64 c, .int .i64 d]] w fun e w' => e = .returned (.int .i64 (cmpI a b c d)) ∧ Below w.heap.size w w' := by
 by_cases h : a = c
 ·have t : (a != c) = false := bne_eq_false_iff_eq.2 h
  have HE : Aside0 (cmpI a b c d = b - d) := ⟨by unfold cmpI; rw [if_pos h]⟩
  have q : IntKind.i64.wrap (b - d) = b - d := IntWalk.i64_in _ (by omega)
  clear h
  go_enter Try.func56, Try.ntmps56
  go_wp2_with fail
  go_ret
  exact ⟨by rw [HE.out]; first | rfl | (congr 2), ((Below.refl _ _).alloc (Nat.le_refl _) _).alloc (by simp) _⟩
 ·have t : (a != c) = true := bne_iff_ne.2 h
  have HE : Aside0 (cmpI a b c d = a - c) := ⟨by unfold cmpI; rw [if_neg h]⟩
  have q : IntKind.i64.wrap (a - c) = a - c := IntWalk.i64_in _ (by omega)
  clear h
  go_enter Try.func56, Try.ntmps56
  go_wp2_with fail
  go_ret
  exact ⟨by rw [HE.out]; first | rfl | (congr 2), ((Below.refl _ _).alloc (Nat.le_refl _) _).alloc (by simp) _⟩
set_option maxHeartbeats 4000000 in
set_option maxRecDepth 100000 in
theorem simple_calls (n : Int) (A : Option Addr) (c : Nat) (es : List P2) (w : World) (he : Pairs w A es) (hc : es.length ≤ c) :
  Calls Try.prog 44 #[.agg #[.int .i64 n, .slice A es.length c]] w fun e w' => e = .returned (.bool (goodB n es)) ∧ Below w.heap.size w w' := by
 have HE := Aside0.mk he
 have HB := Aside0.mk ((Below.refl w.heap.size w).alloc (Nat.le_refl _) (.cells #[.int .i64 n, .slice A es.length c] 24 (0, 0)))
 have HX := Aside0.mk (heap_last w (.cells #[.int .i64 n, .slice A es.length c] 24 (0, 0)))
 clear he
 have x0 : (w.alloc (.cells #[.int .i64 n, .slice A es.length c] 24 (0, 0))).cell? ⟨w.heap.size, 0, none⟩ = some (.int .i64 n) := heap_cell HX.out rfl
 have x1 : (w.alloc (.cells #[.int .i64 n, .slice A es.length c] 24 (0, 0))).cell? ⟨w.heap.size, 1, none⟩ = some (.slice A es.length c) := heap_cell HX.out rfl
 by_cases h0 : 0 ≤ n ∧ n ≤ 1048576 ∧ es.length ≤ 4194304
 ·obtain ⟨h0, h1, h2⟩ := h0
  have t0 : decide (n < 0) = false := decide_eq_false (by omega)
  have t1 : decide (1048576 < n) = false := decide_eq_false (by omega)
  have t2 : decide (4194304 < (es.length : Int)) = false := decide_eq_false (by omega)
  go_enter Try.func44, Try.ntmps44
  go_wp2_with fail
  obtain ⟨W0, hW0⟩ : ∃ W0, W0 = w.alloc (.cells #[.int .i64 n, .slice A es.length c] 24 (0, 0)) := ⟨_, rfl⟩
  rw [← hW0] at HB HX ⊢
  obtain ⟨bg, hbg⟩ : ∃ bg, bg = w.heap.size := ⟨_, rfl⟩
  rw [← hbg] at HX ⊢
  have HBG := Aside0.mk hbg
  clear hbg hW0 x0 x1
  have HP0 : Aside0 (∀ j, j < 0 → OkAt n es j) := ⟨fun j h => absurd h (by omega)⟩
  go_loopw [22] (fun y wr => ∃ (i : Nat), y = .int .i64 (i : Int) ∧ i ≤ es.length ∧ Aside0 (∀ j, j < i → OkAt n es j) ∧ Aside0 (Below w.heap.size w wr) ∧ Aside0 (wr.heap[bg]? = some (.cells #[.int .i64 n, .slice A es.length c] 24 (0, 0)))) (fun y _ => es.length - (intOf y).toNat)
  case atStart => exact ⟨0, rfl, by omega, HP0, HB, HX⟩
  case round =>
   clear HP0 HB HX
   obtain ⟨i, rfl, hi, HP, HB, HX⟩ := hrel
   by_cases hlt : i < es.length
   ·obtain ⟨ad, eA, y1, y2⟩ := (HE.out.below HB.out) i hlt
    subst eA
    have HPR : Aside0 (0 < i → ∃ p, i = p + 1 ∧ OkAt n es p ∧ wr.cell? (ad.add (p * 2)) = some (.int .i64 (pe es p).1) ∧ wr.cell? ⟨(ad.add (p * 2)).block, (ad.add (p * 2)).off + 1, none⟩ = some (.int .i64 (pe es p).2)) := ⟨fun h => by
     obtain ⟨ad', e', z1, z2⟩ := (HE.out.below HB.out) (i - 1) (by omega)
     obtain rfl : ad = ad' := by simpa using e'
     exact ⟨i - 1, by omega, HP.out _ (by omega), z1, z2⟩⟩
    obtain ⟨u, hu⟩ : ∃ u, u = (pe es i).1 := ⟨_, rfl⟩
    obtain ⟨v, hv⟩ : ∃ v, v = (pe es i).2 := ⟨_, rfl⟩
    rw [← hu] at y1
    rw [← hv] at y2
    have HUV : Aside0 (pe es i = (u, v)) := ⟨by rw [hu, hv]⟩
    clear hu hv
    have HBAD : Aside0 (¬ OkAt n es i → goodB n es = false) := ⟨fun h => goodB_no (fun g => h (g.2.2.2 i hlt))⟩
    have HX2 := Aside0.mk (heap_old HX.out (.cells #[.int .i64 u, .int .i64 v] 59 (0, 0)))
    have HB2 := Aside0.mk (HB.out.alloc HB.out.size (.cells #[.int .i64 u, .int .i64 v] 59 (0, 0)))
    have HY2 := Aside0.mk (heap_last wr (.cells #[.int .i64 u, .int .i64 v] 59 (0, 0)))
    go_wp2_with fail
    clear y1 y2
    have x0 : (wr.alloc (.cells #[.int .i64 u, .int .i64 v] 59 (0, 0))).cell? ⟨bg, 0, none⟩ = some (.int .i64 n) := heap_cell HX2.out rfl
    have x1 : (wr.alloc (.cells #[.int .i64 u, .int .i64 v] 59 (0, 0))).cell? ⟨bg, 1, none⟩ = some (.slice (some ad) es.length c) := heap_cell HX2.out rfl
    have x2 : (wr.alloc (.cells #[.int .i64 u, .int .i64 v] 59 (0, 0))).cell? ⟨wr.heap.size, 0, none⟩ = some (.int .i64 u) := heap_cell HY2.out rfl
    have x3 : (wr.alloc (.cells #[.int .i64 u, .int .i64 v] 59 (0, 0))).cell? ⟨wr.heap.size, 1, none⟩ = some (.int .i64 v) := heap_cell HY2.out rfl
    have HBX : Aside0 (∀ b, b < wr.heap.size → (wr.alloc (.cells #[.int .i64 u, .int .i64 v] 59 (0, 0))).heap[b]? = wr.heap[b]?) := ⟨fun b hb => Below.heap_alloc _ _ _ hb⟩
    generalize wr.alloc (.cells #[.int .i64 u, .int .i64 v] 59 (0, 0)) = w2 at HX2 HB2 HY2 HBX x0 x1 x2 x3 ⊢
    obtain ⟨be, hbe⟩ : ∃ be, be = wr.heap.size := ⟨_, rfl⟩
    rw [← hbe] at x2 x3 HY2 HBX ⊢
    have HBE := Aside0.mk hbe
    clear hbe
    by_cases a0 : u < 0
    ·have HG := Aside0.mk (HBAD.out (fun h => by have := h.1; rw [HUV.out] at this; unfold okP at this; rw [decide_eq_true_eq] at this; simp only at this; omega))
     have t3 : decide (u < 0) = true := decide_eq_true a0
     go_quiet (fail)
     go_wp2_with fail
     go_ret
     exact ⟨by rw [HG.out]; rfl, below_drewN HB2.out _⟩
    have t3 : decide (u < 0) = false := decide_eq_false a0
    by_cases a1 : v ≤ u
    ·have HG := Aside0.mk (HBAD.out (fun h => by have := h.1; rw [HUV.out] at this; unfold okP at this; rw [decide_eq_true_eq] at this; simp only at this; omega))
     have t4 : decide (v ≤ u) = true := decide_eq_true a1
     go_quiet (fail)
     go_wp2_with fail
     go_ret
     exact ⟨by rw [HG.out]; rfl, below_drewN HB2.out _⟩
    have t4 : decide (v ≤ u) = false := decide_eq_false a1
    by_cases a2 : n ≤ v
    ·have HG := Aside0.mk (HBAD.out (fun h => by have := h.1; rw [HUV.out] at this; unfold okP at this; rw [decide_eq_true_eq] at this; simp only at this; omega))
     have t5 : decide (n ≤ v) = true := decide_eq_true a2
     go_quiet (fail)
     go_wp2_with fail
     go_ret
     exact ⟨by rw [HG.out]; rfl, below_drewN HB2.out _⟩
    have t5 : decide (n ≤ v) = false := decide_eq_false a2
    have HOK : Aside0 (okP n (pe es i) = true) := ⟨by rw [HUV.out]; unfold okP; rw [decide_eq_true_eq]; simp only; omega⟩
    by_cases a3 : 0 < i
    ·obtain ⟨p, hp, hop, z1, z2⟩ := HPR.out a3
     have t6 : decide (0 < (i : Int)) = true := decide_eq_true (by omega)
     obtain ⟨u', hu⟩ : ∃ u', u' = (pe es p).1 := ⟨_, rfl⟩
     obtain ⟨v', hv⟩ : ∃ v', v' = (pe es p).2 := ⟨_, rfl⟩
     rw [← hu] at z1
     rw [← hv] at z2
     have HUV' : Aside0 (pe es p = (u', v')) := ⟨by rw [hu, hv]⟩
     have hr : 0 ≤ u' ∧ u' < v' ∧ v' < n := by
      have := hop.1
      rw [HUV'.out] at this
      unfold okP at this
      simpa using this
     obtain ⟨hr0, hr1, hr2⟩ := hr
     have z1' : w2.cell? (ad.add (p * 2)) = some (.int .i64 u') := by
      rw [World.cell?, HBX.out _ (by rw [HBE.out]; exact cell_lt z1)]; exact z1
     have z2' : w2.cell? ⟨(ad.add (p * 2)).block, (ad.add (p * 2)).off + 1, none⟩ = some (.int .i64 v') := by
      rw [World.cell?, HBX.out _ (by rw [HBE.out]; exact cell_lt z2)]; exact z2
     have q1 : IntKind.i64.wrap ((i : Int) - 1) = (p : Int) := by rw [IntWalk.i64_in _ (by omega)]; omega
     have hpl : p < es.length := by omega
     have HP2 := Aside0.mk hp
     clear hu hv hop hp z1 z2
     go_still_tail 28, (by kernel_rfl)
     have HB3 : Aside0 (Below w.heap.size w w2.drew) := ⟨HB2.out.drew⟩
     have HX3 : Aside0 (w2.drew.heap[bg]? = some (.cells #[.int .i64 n, .slice (some ad) es.length c] 24 (0, 0))) := ⟨HX2.out⟩
     change wpList _ _ _ _ _ w2.drew
     generalize w2.drew = w3 at HB3 HX3 ⊢
     clear x0 x1 x2 x3 z1' z2' HB2 HX2 HY2 HBX
     by_cases hlt2 : ltP (u', v') (u, v) = true
     ·have hz := cmpI_lt.2 hlt2
      have t7 : decide (0 ≤ cmpI u' v' u v) = false := decide_eq_false (by omega)
      have HP3 : Aside0 (∀ j, j < i + 1 → OkAt n es j) := ⟨fun j hj => by
       rcases Nat.lt_succ_iff_lt_or_eq.1 hj with g | rfl
       ·exact HP.out j g
       ·exact ⟨HOK.out, fun h => by rw [show j - 1 = p by have := HP2.out; omega, HUV.out, HUV'.out]; exact hlt2⟩⟩
      clear hz hlt2
      go_wp2_with (go_at_call 56; refine (compare_calls u' v' u v _ (by omega) (by omega) (by omega) (by omega)).mono ?_; rintro e w4 ⟨rfl, hb⟩)
      have HX4 := Aside0.mk ((hb.block _ (lt_of HX3.out)).trans HX3.out)
      have HB4 := Aside0.mk (HB3.out.trans (hb.mono HB3.out.size))
      clear hb HX3 HB3
      go_wp2_with fail
      go_roundw
      case rel => exact ⟨i + 1, by go_num, by omega, HP3, HB4, HX4⟩
      case measure => simp [intOf]; omega
     ·have HG := Aside0.mk (HBAD.out (fun h => hlt2 (by
       have := h.2 a3
       rw [show i - 1 = p by have := HP2.out; omega, HUV.out, HUV'.out] at this
       exact this)))
      have hz : ¬ cmpI u' v' u v < 0 := fun h => hlt2 (cmpI_lt.1 h)
      have t7 : decide (0 ≤ cmpI u' v' u v) = true := decide_eq_true (by omega)
      clear hz hlt2
      go_wp2_with (go_at_call 56; refine (compare_calls u' v' u v _ (by omega) (by omega) (by omega) (by omega)).mono ?_; rintro e w4 ⟨rfl, hb⟩)
      have HB4 := Aside0.mk (HB3.out.trans (hb.mono HB3.out.size))
      clear hb HB3
      go_wp2_with fail
      go_ret
      exact ⟨by rw [HG.out]; rfl, HB4.out⟩
    ·have t6 : decide (0 < (i : Int)) = false := decide_eq_false (by omega)
     have HP2 : Aside0 (∀ j, j < i + 1 → OkAt n es j) := ⟨fun j hj => by
      rcases Nat.lt_succ_iff_lt_or_eq.1 hj with g | rfl
      ·exact HP.out j g
      ·exact ⟨HOK.out, fun h => absurd h a3⟩⟩
     go_quiet (fail)
     go_wp2_with fail
     go_roundw
     case rel => exact ⟨i + 1, by go_num, by omega, HP2, ⟨below_drewN HB2.out _⟩, ⟨HX2.out⟩⟩
     case measure => simp [intOf]; omega
   ·obtain rfl : i = es.length := by omega
    have HG := Aside0.mk ((goodB_iff n es).2 ⟨h0, h1, h2, HP.out⟩)
    go_wp2_with fail
    go_ret
    exact ⟨by rw [HG.out]; rfl, HB.out⟩
 ·have HG := Aside0.mk (goodB_no (n := n) (es := es) (fun h => h0 ⟨h.1, h.2.1, h.2.2.1⟩))
  by_cases a0 : n < 0
  ·have t0 : decide (n < 0) = true := decide_eq_true a0
   clear h0
   go_enter Try.func44, Try.ntmps44
   go_wp2_with fail
   go_ret
   exact ⟨by rw [HG.out]; rfl, HB.out⟩
  ·have t0 : decide (n < 0) = false := decide_eq_false a0
   by_cases a1 : 1048576 < n
   ·have t1 : decide (1048576 < n) = true := decide_eq_true a1
    clear h0
    go_enter Try.func44, Try.ntmps44
    go_wp2_with fail
    go_ret
    exact ⟨by rw [HG.out]; rfl, HB.out⟩
   ·have t1 : decide (1048576 < n) = false := decide_eq_false a1
    have t2 : decide (4194304 < (es.length : Int)) = true := decide_eq_true (by omega)
    clear h0
    go_enter Try.func44, Try.ntmps44
    go_wp2_with fail
    go_ret
    exact ⟨by rw [HG.out]; rfl, HB.out⟩
set_option maxHeartbeats 1000000 in
set_option maxRecDepth 100000 in
theorem less_calls (a b c d : Int) (w : World) :
  Calls Try.prog 33 #[.agg #[.int .i64 a, .int .i64 b], .agg #[.int .i64 c, .int .i64 d]] w fun e w' => e = .returned (.bool (ltP (a, b) (c, d))) ∧ Below w.heap.size w w' := by
 by_cases h : a < c
 ·have t : decide (a < c) = true := decide_eq_true h
  have HE : Aside0 (ltP (a, b) (c, d) = true) := ⟨decide_eq_true (Or.inl h)⟩
  clear h
  go_enter Try.func33, Try.ntmps33
  go_wp2_with fail
  go_ret
  exact ⟨by rw [HE.out]; rfl, ((Below.refl _ _).alloc (Nat.le_refl _) _).alloc (by simp) _⟩
 ·have t : decide (a < c) = false := decide_eq_false h
  by_cases h2 : a = c
  ·have t2 : (a == c) = true := beq_iff_eq.2 h2
   have HE : Aside0 (ltP (a, b) (c, d) = decide (b < d)) := ⟨by unfold ltP; rw [decide_eq_decide]; simp only; omega⟩
   clear h h2
   go_enter Try.func33, Try.ntmps33
   go_wp2_with fail
   go_ret
   exact ⟨by rw [HE.out]; rfl, ((Below.refl _ _).alloc (Nat.le_refl _) _).alloc (by simp) _⟩
  ·have t2 : (a == c) = false := beq_eq_false_iff_ne.2 h2
   have HE : Aside0 (ltP (a, b) (c, d) = false) := ⟨by unfold ltP; rw [decide_eq_false_iff_not]; simp only; omega⟩
   clear h h2
   go_enter Try.func33, Try.ntmps33
   go_wp2_with fail
   go_ret
   exact ⟨by rw [HE.out]; rfl, ((Below.refl _ _).alloc (Nat.le_refl _) _).alloc (by simp) _⟩
set_option maxHeartbeats 4000000 in
set_option maxRecDepth 100000 in
theorem ref_calls (n : Int) (A : Option Addr) (c : Nat) (es : List P2) (w : World) (he : Pairs w A es) (hc : es.length ≤ c) :
  Calls Try.prog 13 #[.agg #[.int .i64 n, .slice A es.length c]] w fun e w' => e = .returned (.bool (goodB n es)) ∧ Below w.heap.size w w' := by
 have HE := Aside0.mk he
 have HB := Aside0.mk ((Below.refl w.heap.size w).alloc (Nat.le_refl _) (.cells #[.int .i64 n, .slice A es.length c] 24 (0, 0)))
 have HX := Aside0.mk (heap_last w (.cells #[.int .i64 n, .slice A es.length c] 24 (0, 0)))
 clear he
 have x0 : (w.alloc (.cells #[.int .i64 n, .slice A es.length c] 24 (0, 0))).cell? ⟨w.heap.size, 0, none⟩ = some (.int .i64 n) := heap_cell HX.out rfl
 have x1 : (w.alloc (.cells #[.int .i64 n, .slice A es.length c] 24 (0, 0))).cell? ⟨w.heap.size, 1, none⟩ = some (.slice A es.length c) := heap_cell HX.out rfl
 by_cases h0 : 0 ≤ n ∧ n ≤ 1048576 ∧ es.length ≤ 4194304
 ·obtain ⟨h0, h1, h2⟩ := h0
  have t0 : decide (n < 0) = false := decide_eq_false (by omega)
  have t1 : decide (1048576 < n) = false := decide_eq_false (by omega)
  have t2 : decide (4194304 < (es.length : Int)) = false := decide_eq_false (by omega)
  go_enter Try.func13, Try.ntmps13
  go_wp2_with fail
  obtain ⟨W0, hW0⟩ : ∃ W0, W0 = w.alloc (.cells #[.int .i64 n, .slice A es.length c] 24 (0, 0)) := ⟨_, rfl⟩
  rw [← hW0] at HB HX ⊢
  obtain ⟨bg, hbg⟩ : ∃ bg, bg = w.heap.size := ⟨_, rfl⟩
  rw [← hbg] at HX ⊢
  have HBG := Aside0.mk hbg
  clear hbg hW0 x0 x1
  have HP0 : Aside0 (∀ j, j < 0 → OkAt n es j) := ⟨fun j h => absurd h (by omega)⟩
  go_loopw [3] (fun y wr => ∃ (i : Nat), y = .int .i64 (i : Int) ∧ i ≤ es.length ∧ Aside0 (∀ j, j < i → OkAt n es j) ∧ Aside0 (Below w.heap.size w wr) ∧ Aside0 (wr.heap[bg]? = some (.cells #[.int .i64 n, .slice A es.length c] 24 (0, 0)))) (fun y _ => es.length - (intOf y).toNat)
  case atStart => exact ⟨0, rfl, by omega, HP0, HB, HX⟩
  case round =>
   clear HP0 HB HX
   obtain ⟨i, rfl, hi, HP, HB, HX⟩ := hrel
   have w1 : wr.cell? ⟨bg, 1, none⟩ = some (.slice A es.length c) := heap_cell HX.out rfl
   by_cases hlt : i < es.length
   ·obtain ⟨ad, eA, y1, y2⟩ := (HE.out.below HB.out) i hlt
    subst eA
    have HPR : Aside0 (0 < i → ∃ p, i = p + 1 ∧ OkAt n es p ∧ wr.cell? (ad.add (p * 2)) = some (.int .i64 (pe es p).1) ∧ wr.cell? ⟨(ad.add (p * 2)).block, (ad.add (p * 2)).off + 1, none⟩ = some (.int .i64 (pe es p).2)) := ⟨fun h => by
     obtain ⟨ad', e', z1, z2⟩ := (HE.out.below HB.out) (i - 1) (by omega)
     obtain rfl : ad = ad' := by simpa using e'
     exact ⟨i - 1, by omega, HP.out _ (by omega), z1, z2⟩⟩
    obtain ⟨u, hu⟩ : ∃ u, u = (pe es i).1 := ⟨_, rfl⟩
    obtain ⟨v, hv⟩ : ∃ v, v = (pe es i).2 := ⟨_, rfl⟩
    rw [← hu] at y1
    rw [← hv] at y2
    have HUV : Aside0 (pe es i = (u, v)) := ⟨by rw [hu, hv]⟩
    clear hu hv
    have HBAD : Aside0 (¬ OkAt n es i → goodB n es = false) := ⟨fun h => goodB_no (fun g => h (g.2.2.2 i hlt))⟩
    have HX2 := Aside0.mk (heap_old HX.out (.cells #[.int .i64 u, .int .i64 v] 59 (0, 0)))
    have HB2 := Aside0.mk (HB.out.alloc HB.out.size (.cells #[.int .i64 u, .int .i64 v] 59 (0, 0)))
    have HY2 := Aside0.mk (heap_last wr (.cells #[.int .i64 u, .int .i64 v] 59 (0, 0)))
    have x0 : (wr.alloc (.cells #[.int .i64 u, .int .i64 v] 59 (0, 0))).cell? ⟨bg, 0, none⟩ = some (.int .i64 n) := heap_cell HX2.out rfl
    have x1 : (wr.alloc (.cells #[.int .i64 u, .int .i64 v] 59 (0, 0))).cell? ⟨bg, 1, none⟩ = some (.slice (some ad) es.length c) := heap_cell HX2.out rfl
    have x2 : (wr.alloc (.cells #[.int .i64 u, .int .i64 v] 59 (0, 0))).cell? ⟨wr.heap.size, 0, none⟩ = some (.int .i64 u) := heap_cell HY2.out rfl
    have x3 : (wr.alloc (.cells #[.int .i64 u, .int .i64 v] 59 (0, 0))).cell? ⟨wr.heap.size, 1, none⟩ = some (.int .i64 v) := heap_cell HY2.out rfl
    have HBX : Aside0 (∀ b, b < wr.heap.size → (wr.alloc (.cells #[.int .i64 u, .int .i64 v] 59 (0, 0))).heap[b]? = wr.heap[b]?) := ⟨fun b hb => Below.heap_alloc _ _ _ hb⟩
    by_cases a0 : u < 0
    ·have HG := Aside0.mk (HBAD.out (fun h => by have := h.1; rw [HUV.out] at this; unfold okP at this; rw [decide_eq_true_eq] at this; simp only at this; omega))
     have t3 : decide (u < 0) = true := decide_eq_true a0
     go_wp2_with fail
     go_ret
     exact ⟨by rw [HG.out]; rfl, HB2.out⟩
    have t3 : decide (u < 0) = false := decide_eq_false a0
    by_cases a1 : v ≤ u
    ·have HG := Aside0.mk (HBAD.out (fun h => by have := h.1; rw [HUV.out] at this; unfold okP at this; rw [decide_eq_true_eq] at this; simp only at this; omega))
     have t4 : decide (v ≤ u) = true := decide_eq_true a1
     go_wp2_with fail
     go_ret
     exact ⟨by rw [HG.out]; rfl, HB2.out⟩
    have t4 : decide (v ≤ u) = false := decide_eq_false a1
    by_cases a2 : n ≤ v
    ·have HG := Aside0.mk (HBAD.out (fun h => by have := h.1; rw [HUV.out] at this; unfold okP at this; rw [decide_eq_true_eq] at this; simp only at this; omega))
     have t5 : decide (n ≤ v) = true := decide_eq_true a2
     go_wp2_with fail
     go_ret
     exact ⟨by rw [HG.out]; rfl, HB2.out⟩
    have t5 : decide (n ≤ v) = false := decide_eq_false a2
    have HOK : Aside0 (okP n (pe es i) = true) := ⟨by rw [HUV.out]; unfold okP; rw [decide_eq_true_eq]; simp only; omega⟩
    by_cases a3 : 0 < i
    ·have t6 : decide (0 < (i : Int)) = true := decide_eq_true (by omega)
     go_wp2_with fail
     clear y1 y2 w1
     generalize wr.alloc (.cells #[.int .i64 u, .int .i64 v] 59 (0, 0)) = w2 at HX2 HB2 HY2 HBX x0 x1 x2 x3 ⊢
     obtain ⟨be, hbe⟩ : ∃ be, be = wr.heap.size := ⟨_, rfl⟩
     rw [← hbe] at x2 x3 HY2 HBX ⊢
     have HBE := Aside0.mk hbe
     clear hbe
     obtain ⟨p, hp, hop, z1, z2⟩ := HPR.out a3
     obtain ⟨u', hu⟩ : ∃ u', u' = (pe es p).1 := ⟨_, rfl⟩
     obtain ⟨v', hv⟩ : ∃ v', v' = (pe es p).2 := ⟨_, rfl⟩
     rw [← hu] at z1
     rw [← hv] at z2
     have HUV' : Aside0 (pe es p = (u', v')) := ⟨by rw [hu, hv]⟩
     have hr : 0 ≤ u' ∧ u' < v' ∧ v' < n := by
      have := hop.1
      rw [HUV'.out] at this
      unfold okP at this
      simpa using this
     obtain ⟨hr0, hr1, hr2⟩ := hr
     have z1' : w2.cell? (ad.add (p * 2)) = some (.int .i64 u') := by
      rw [World.cell?, HBX.out _ (by rw [HBE.out]; exact cell_lt z1)]; exact z1
     have z2' : w2.cell? ⟨(ad.add (p * 2)).block, (ad.add (p * 2)).off + 1, none⟩ = some (.int .i64 v') := by
      rw [World.cell?, HBX.out _ (by rw [HBE.out]; exact cell_lt z2)]; exact z2
     have q1 : IntKind.i64.wrap ((i : Int) - 1) = (p : Int) := by rw [IntWalk.i64_in _ (by omega)]; omega
     have hpl : p < es.length := by omega
     have HP2 := Aside0.mk hp
     clear hu hv hop hp z1 z2
     go_still_tail 7, (by kernel_rfl)
     have HB3 : Aside0 (Below w.heap.size w w2.drew) := ⟨HB2.out.drew⟩
     have HX3 : Aside0 (w2.drew.heap[bg]? = some (.cells #[.int .i64 n, .slice (some ad) es.length c] 24 (0, 0))) := ⟨HX2.out⟩
     change wpList _ _ _ _ _ w2.drew
     generalize w2.drew = w3 at HB3 HX3 ⊢
     clear x0 x1 x2 x3 z1' z2' HB2 HX2 HY2 HBX
     by_cases hlt2 : ltP (u', v') (u, v) = true
     ·have t7 := hlt2
      have HP3 : Aside0 (∀ j, j < i + 1 → OkAt n es j) := ⟨fun j hj => by
       rcases Nat.lt_succ_iff_lt_or_eq.1 hj with g | rfl
       ·exact HP.out j g
       ·exact ⟨HOK.out, fun h => by rw [show j - 1 = p by have := HP2.out; omega, HUV.out, HUV'.out]; exact hlt2⟩⟩
      clear hlt2
      go_wp2_with (go_at_call 33; refine (less_calls u' v' u v _).mono ?_; rintro e w4 ⟨rfl, hb⟩)
      have HX4 := Aside0.mk ((hb.block _ (lt_of HX3.out)).trans HX3.out)
      have HB4 := Aside0.mk (HB3.out.trans (hb.mono HB3.out.size))
      clear hb HX3 HB3
      go_wp2_with fail
      go_roundw
      case rel => exact ⟨i + 1, by go_num, by omega, HP3, HB4, HX4⟩
      case measure => simp [intOf]; omega
     ·have HG := Aside0.mk (HBAD.out (fun h => hlt2 (by
       have := h.2 a3
       rw [show i - 1 = p by have := HP2.out; omega, HUV.out, HUV'.out] at this
       exact this)))
      have t7 : ltP (u', v') (u, v) = false := by simpa using hlt2
      clear hlt2
      go_wp2_with (go_at_call 33; refine (less_calls u' v' u v _).mono ?_; rintro e w4 ⟨rfl, hb⟩)
      have HB4 := Aside0.mk (HB3.out.trans (hb.mono HB3.out.size))
      clear hb HB3
      go_wp2_with fail
      go_ret
      exact ⟨by rw [HG.out]; rfl, HB4.out⟩
    ·have t6 : decide (0 < (i : Int)) = false := decide_eq_false (by omega)
     have HP2 : Aside0 (∀ j, j < i + 1 → OkAt n es j) := ⟨fun j hj => by
      rcases Nat.lt_succ_iff_lt_or_eq.1 hj with g | rfl
      ·exact HP.out j g
      ·exact ⟨HOK.out, fun h => absurd h a3⟩⟩
     go_wp2_with fail
     go_roundw
     case rel => exact ⟨i + 1, by go_num, by omega, HP2, HB2, HX2⟩
     case measure => simp [intOf]; omega
   ·obtain rfl : i = es.length := by omega
    have HG := Aside0.mk ((goodB_iff n es).2 ⟨h0, h1, h2, HP.out⟩)
    go_wp2_with fail
    go_ret
    exact ⟨by rw [HG.out]; rfl, HB.out⟩
 ·have HG := Aside0.mk (goodB_no (n := n) (es := es) (fun h => h0 ⟨h.1, h.2.1, h.2.2.1⟩))
  by_cases a0 : n < 0
  ·have t0 : decide (n < 0) = true := decide_eq_true a0
   clear h0
   go_enter Try.func13, Try.ntmps13
   go_wp2_with fail
   go_ret
   exact ⟨by rw [HG.out]; rfl, HB.out⟩
  ·have t0 : decide (n < 0) = false := decide_eq_false a0
   by_cases a1 : 1048576 < n
   ·have t1 : decide (1048576 < n) = true := decide_eq_true a1
    clear h0
    go_enter Try.func13, Try.ntmps13
    go_wp2_with fail
    go_ret
    exact ⟨by rw [HG.out]; rfl, HB.out⟩
   ·have t1 : decide (1048576 < n) = false := decide_eq_false a1
    have t2 : decide (4194304 < (es.length : Int)) = true := decide_eq_true (by omega)
    clear h0
    go_enter Try.func13, Try.ntmps13
    go_wp2_with fail
    go_ret
    exact ⟨by rw [HG.out]; rfl, HB.out⟩
end Go.Proofs.Ytkkhhbegeboonaa.ValH
namespace Go.Proofs.Ytkkhhbegeboonaa.GAll
open Go.RowKit Go.Proofs.YtkkhhbegeboonaaW.PrintWords Go.Proofs.YtkkhhbegeboonaaW.PrintLast Go.Proofs.YtkkhhbegeboonaaW.PrintMore
attribute [local go_sem] max2_int min2_int max_two min_two max_three min_three max_four min_four   -- for this text's walks alone
set_option linter.unusedVariables false
set_option linter.unusedSimpArgs false
def errW : Option Int → Value
 | none => .nilIface
 | some c => .iface 0 (.int .i64 c)
theorem errW_none : errW none = .nilIface := rfl
theorem errW_some (c : Int) : errW (some c) = .iface 0 (.int .i64 c) := rfl
theorem info3 : (Try.prog.info? 3).map (fun i => (i.zero, i.size, i.bytes)) = some (some (.int .i64 0), 1, 8) := by kernel_rfl
theorem info28 : (Try.prog.info? 28).map (fun i => (i.zero, i.size, i.bytes)) = some (some (.slice none 0 0), 1, 24) := by kernel_rfl
structure S59 where
 f0 : Int
 f1 : Int
def z59 : S59 := ⟨(0 : Int), (0 : Int)⟩
def k59 : Kd S59 := Kd.iso (Kd.pair (Kd.int .i64) (Kd.int .i64)) (fun x : S59 => (x.f0, x.f1))
theorem k59_open {w : World} {x : S59} {cs : List Value} (h : k59.K w x cs) : cs = [.int .i64 x.f0, .int .i64 x.f1] := by
 obtain ⟨_, _, rfl, rfl, rfl⟩ := h
 exact rfl
theorem k59_mkM (w : World) (base : Nat) (ok : Nat → Prop) (x : S59)  : k59.M w base ok x [.int .i64 x.f0, .int .i64 x.f1] := ⟨[.int .i64 x.f0], [.int .i64 x.f1], rfl, rfl, rfl⟩
def rd_T59 (xs : List S59) (i : Int) : S59 := xs.getD i.toNat z59
theorem at_T59 {w : World} {A : Option Addr} {n : Nat} {xs : List S59} (h : Kd.C k59 w A n xs) (i : Int) (h0 : 0 ≤ i) (h1 : i < n) : ∃ ad , A = some ad ∧ w.cell? (ad.add (i.toNat * 2)) = some (.int .i64 (rd_T59 xs i).f0) ∧ w.cell? ⟨(ad.add (i.toNat * 2)).block, (ad.add (i.toNat * 2)).off + 1, none⟩ = some (.int .i64 (rd_T59 xs i).f1) := by
 obtain ⟨ad, c, e, _, hK, hc0⟩ := Kd.C_get h z59 i h0 h1
 have hc : ∀ j u, c[j]? = some u → w.cell? (ad.add (i.toNat * 2 + j)) = some u := hc0
 obtain rfl := k59_open hK
 exact ⟨ad, e, hc 0 _ rfl, by rw [← add_field _ _ 1 (by omega)]; exact hc 1 _ rfl⟩
def rd_L2 (xs : List (List S59)) (i : Int) : (List S59) := xs.getD i.toNat ([] : List S59)
structure S24 where
 f0 : Int
 f1 : (List S59)
def z24 : S24 := ⟨(0 : Int), ([] : List S59)⟩
def k24 : Kd S24 := Kd.iso (Kd.pair (Kd.int .i64) (Kd.slice 59 k59)) (fun x : S24 => (x.f0, x.f1))
def rd_T24 (xs : List S24) (i : Int) : S24 := xs.getD i.toNat z24
def rd_L5 (xs : List (List Int)) (i : Int) : (List Int) := xs.getD i.toNat ([] : List Int)
theorem at_L5 {w : World} {A : Option Addr} {n : Nat} {xs : List (List Int)} (h : Kd.C (Kd.slice 3 (Kd.int .i64)) w A n xs) (i : Int) (h0 : 0 ≤ i) (h1 : i < n) : ∃ ad A0 c0, A = some ad ∧ w.cell? (ad.add i.toNat) = some (.slice A0 (rd_L5 xs i).length c0) ∧ (rd_L5 xs i).length ≤ c0 ∧ (Kd.int .i64).C w A0 (rd_L5 xs i).length (rd_L5 xs i) := by
 obtain ⟨ad, c, e, _, hK, hc0⟩ := Kd.C_get h ([] : List Int) i h0 h1
 have hc : ∀ j u, c[j]? = some u → w.cell? (ad.add (i.toNat * 1 + j)) = some u := hc0
 obtain ⟨A0, c0, rfl, l0, g0⟩ := hK
 exact ⟨ad, A0, c0, e, by have hq := hc 0 _ rfl; rwa [Nat.mul_one, Nat.add_zero] at hq, l0, g0⟩
def rd_L6 (xs : List (List (List Int))) (i : Int) : (List (List Int)) := xs.getD i.toNat ([] : List (List Int))
end Go.Proofs.Ytkkhhbegeboonaa.GAll
namespace Go.Proofs.Ytkkhhbegeboonaa.EJ
open Go.RowKit Go.Proofs.YtkkhhbegeboonaaW.PrintWords Go.Proofs.YtkkhhbegeboonaaW.PrintLast Go.Proofs.YtkkhhbegeboonaaW.PrintMore Go.Proofs.Ytkkhhbegeboonaa.GAll Go.Proofs.Ytkkhhbegeboonaa.Mem
set_option linter.unusedVariables false
set_option linter.unusedSimpArgs false
abbrev Eg := S59
abbrev kE : Kd Eg := k59
theorem info_edge : (Try.prog.info? 59).map (fun i => (i.zero, i.size, i.bytes)) = some (some (.agg #[.int .i64 0, .int .i64 0]), 2, 16) := by kernel_rfl
theorem kE_M {w W : World} {base : Nat} {ok : Nat → Prop} {x : Eg} {cs : List Value} (h : kE.K w x cs) : kE.M W base ok x cs := h
structure J (w0 w : World) (o : Option (Value × List Eg)) (bx : Option (Nat × Int × Int)) (gr : Option Nat) : Prop where
 old : Below w0.heap.size w0 w
 row : ∀ v l, o = some (v, l) → Kd.R kE 59 w w0.heap.size (fun _ => True) v l
 box : ∀ b x y, bx = some (b, x, y) → w.heap[b]? = some (.cells #[.int .i64 x, .int .i64 y] 59 (0, 0))
 graph : ∀ b, gr = some b → w.heap[b]? = some (.cells #[.int .i64 0, .slice none 0 0] 24 (0, 0))
 far : ∀ v l b x y, o = some (v, l) → bx = some (b, x, y) → v.ownBlock ≠ some b
 lo : ∀ b, gr = some b → w0.heap.size ≤ b
section
variable {w0 w : World} {o : Option (Value × List Eg)} {bx : Option (Nat × Int × Int)} {gr : Option Nat}
theorem J.start (w0 : World) : J w0 w0 none none none := by
 refine ⟨Below.refl _ _, ?_, ?_, ?_, ?_, ?_⟩
 ·intro v l h; exact absurd h (by simp)
 ·intro b x y h; exact absurd h (by simp)
 ·intro b h; exact absurd h (by simp)
 ·intro v l b x y h; exact absurd h (by simp)
 ·intro b h; exact absurd h (by simp)
theorem J.alloc (h : J w0 w o bx gr) (ob : Obj) : J w0 (w.alloc ob) o bx gr :=
 ⟨h.old.alloc h.old.size ob, fun v l e => Kd.R_below (h.row v l e) ((Below.refl _ _).alloc (Nat.le_refl _) ob), fun b x y e => heap_old (h.box b x y e) ob, fun b e => heap_old (h.graph b e) ob, h.far, h.lo⟩
theorem J.drew (h : J w0 w o bx gr) : J w0 w.drew o bx gr := ⟨h.old.drew, fun v l e => Kd.R_below (h.row v l e) ((Below.refl _ _).drew), h.box, h.graph, h.far, h.lo⟩
theorem J.made (h : J w0 w none bx gr) (cs : Array Value) (c : Nat) (hc : c ≤ maxLen) (hs : cs.size = c * 2) : J w0 (w.alloc (.cells cs 59 (0, 0))) (some (.slice (some ⟨w.heap.size, 0, none⟩) 0 c, [])) bx gr := by
 have h1 := h.alloc (.cells cs 59 (0, 0))
 refine ⟨h1.old, fun v l e => ?_, h1.box, h1.graph, fun v l b x y e e2 e3 => ?_, h1.lo⟩
 ·simp only [Option.some.injEq, Prod.mk.injEq] at e
  obtain ⟨rfl, rfl⟩ := e
  exact ⟨fun _ _ => trivial, [], World.ownsRow_made w cs c h.old.size hc hs, Reps.none _ _⟩
 ·simp only [Option.some.injEq, Prod.mk.injEq] at e
  obtain ⟨rfl, rfl⟩ := e
  have := lt_of (h.box b x y e2)
  have : w.heap.size = b := by simpa [Value.ownBlock] using e3
  omega
theorem J.graphed (h : J w0 w o bx none) : J w0 (w.alloc (.cells #[.int .i64 0, .slice none 0 0] 24 (0, 0))) o bx (some w.heap.size) := by
 have h1 := h.alloc (.cells #[.int .i64 0, .slice none 0 0] 24 (0, 0))
 refine ⟨h1.old, h1.row, h1.box, fun b e => ?_, h1.far, fun b e => ?_⟩
 ·simp only [Option.some.injEq] at e
  subst e
  exact heap_last _ _
 ·simp only [Option.some.injEq] at e
  subst e
  exact h.old.size
theorem J.grown {w1 : World} {v v1 : Value} {l l1 : List Eg} (h : J w0 w (some (v, l)) bx gr) (hR : Kd.R kE 59 w1 w0.heap.size (fun _ => True) v1 l1) (hb : Below w0.heap.size w0 w1) (hg : w.grownBy w1 v.ownBlock) (hat : v1.ownBlock = v.ownBlock ∨ ∃ b, v1.ownBlock = some b ∧ w.heap.size ≤ b) : J w0 w1 (some (v1, l1)) bx gr := by
 refine ⟨hb, fun v' l' e => ?_, fun b x y e => ?_, fun b e => ?_, fun v' l' b x y e e2 e3 => ?_, h.lo⟩
 ·simp only [Option.some.injEq, Prod.mk.injEq] at e
  obtain ⟨rfl, rfl⟩ := e
  exact hR
 ·have hx := h.box b x y e
  rw [hg.block b (lt_of hx) (fun e3 => h.far v l b x y rfl e e3.symm)]
  exact hx
 ·have hx := h.graph b e
  rw [hg.block b (lt_of hx) (Kd.R_ne (h.row v l rfl) hx (by decide))]
  exact hx
 ·simp only [Option.some.injEq, Prod.mk.injEq] at e
  obtain ⟨rfl, rfl⟩ := e
  have hx := h.box b x y e2
  rcases hat with c | ⟨q, c, hq⟩
  ·exact h.far v l b x y rfl e2 (c ▸ e3)
  ·rw [e3] at c
   injection c with c
   have := lt_of hx
   omega
theorem J.cell (h : J w0 w o bx gr) {a : Addr} {v : Value} (hv : w0.cell? a = some v) : w.cell? a = some v := (h.old.cell (cell_lt hv)).trans hv
end
section
variable {P : Program} {ops : Array Oper} {o : Oper} {a : Act} {Q : Exit → Act → World → Prop} {Kc : Act → World → Prop}
theorem J.rows_step {w0 W : World} {bx : Option (Nat × Int × Int)} {gr : Option Nat} (hw : Region.wanted o (yielded ops a.tmps) = true) (s x : Operand) (t : TypeId)
  (ho : o.op = .call { callee := .builtin .append, args := #[s, x], argTypes := #[t, t] })
  (ht : P.underlying t = some (.slice 59)) (hinfo : (P.info? 59).map (fun i => (i.zero, i.size, i.bytes)) = some (some (.agg #[.int .i64 0, .int .i64 0]), 2, 16))
  (v : Value) (xs ys : List Eg) (A : Option Addr) (m c : Nat) (hs : a.eval s = v) (hx : a.eval x = .slice A m c)
  (hJ : J w0 W (some (v, xs)) bx gr) (HR : Kd.C kE W A m ys) (hl : (xs.length + m) * 16 ≤ 140737488355328)
  (h : ∀ v1 w1, J w0 w1 (some (v1, xs ++ ys)) bx gr → Kc (a.put o.dst v1) w1) :
  if Region.wanted o (yielded ops a.tmps) = true then Oper.wp P o a W Kc Q else Kc (a.put o.dst undef) W := by
 refine Kd.R_append_rows_step kE (Rr := kE.K W) (w0 := w0) w0.heap.size hw s x t 59 (.agg #[.int .i64 0, .int .i64 0]) 16 ho ht hinfo rfl (by decide) (by omega) v xs ys A m c (fun _ => True) (fun _ => False) hs hx (hJ.row _ _ rfl) HR (fun _ _ q => kE_M q) (fun _ q => q.elim) (fun _ _ => trivial) hJ.old hJ.old.size hl ?_
 intro v1 w1 hR hb hg hat
 exact h v1 w1 (hJ.grown hR hb hg hat)
end
end Go.Proofs.Ytkkhhbegeboonaa.EJ
namespace Go.Proofs.Ytkkhhbegeboonaa.Pile
open Go.RowKit Go.Proofs.YtkkhhbegeboonaaW.PrintWords Go.Proofs.YtkkhhbegeboonaaW.PrintLast Go.Proofs.YtkkhhbegeboonaaW.PrintMore Go.Proofs.Ytkkhhbegeboonaa.Mem
set_option linter.unusedVariables false
set_option linter.unusedSimpArgs false
def PRow (w : World) (ok : Nat → Prop) (v : Value) (n : Nat) (V : Nat → Int) : Prop :=
 (v = .slice none 0 0 ∧ n = 0) ∨ ∃ g cap cur, v = .slice (some ⟨g, 0, none⟩) n cap ∧ ok g ∧ w.heap[g]? = some (.cells cur 3 (0, 0)) ∧ n ≤ cap ∧ cap ≤ maxLen ∧ cur.size = cap ∧ ∀ i, i < n → cur[i]? = some (.int .i64 (V i))
theorem PRow.mono {w : World} {ok ok' : Nat → Prop} {v : Value} {n : Nat} {V : Nat → Int} (h : PRow w ok v n V) (hok : ∀ k, ok k → ok' k) : PRow w ok' v n V := by
 rcases h with h | ⟨g, cap, cur, h1, h2, h3⟩
 ·exact .inl h
 ·exact .inr ⟨g, cap, cur, h1, hok g h2, h3⟩
theorem PRow.move {w w' : World} {ok : Nat → Prop} {v : Value} {n : Nat} {V : Nat → Int} (h : PRow w ok v n V) (hm : ∀ k, v.ownBlock = some k → k < w.heap.size → w'.heap[k]? = w.heap[k]?) : PRow w' ok v n V := by
 rcases h with h | ⟨g, cap, cur, h1, h2, h3, h4⟩
 ·exact .inl h
 ·exact .inr ⟨g, cap, cur, h1, h2, by rw [hm g (by rw [h1]; rfl) (lt_of h3)]; exact h3, h4⟩
theorem PRow.lt {w : World} {ok : Nat → Prop} {v : Value} {n : Nat} {V : Nat → Int} (h : PRow w ok v n V) {k : Nat} (hk : v.ownBlock = some k) : ok k ∧ k < w.heap.size := by
 rcases h with ⟨rfl, _⟩ | ⟨g, cap, cur, rfl, h2, h3, _⟩
 ·simp [Value.ownBlock] at hk
 ·obtain rfl : g = k := by simpa [Value.ownBlock] using hk
  exact ⟨h2, lt_of h3⟩
theorem PRow.slice {w : World} {ok : Nat → Prop} {v : Value} {n : Nat} {V : Nat → Int} (h : PRow w ok v n V) : ∃ A c, v = .slice A n c := by
 rcases h with ⟨rfl, rfl⟩ | ⟨g, cap, cur, rfl, _⟩
 ·exact ⟨none, 0, rfl⟩
 ·exact ⟨_, _, rfl⟩
theorem PRow.of_R {w : World} {base : Nat} {ok : Nat → Prop} {v : Value} {xs : List Int} (h : Kd.R (Kd.int .i64) 3 w base ok v xs) : PRow w ok v xs.length (gi xs) := by
 have hC := Kd.R_reads h
 obtain ⟨h0, inner, ho, hr⟩ := h
 rcases ho.2 with h1 | ⟨g, cap, cur, rfl, hg, hh, hn, hm, hs, ht⟩
 ·exact .inl h1
 ·refine .inr ⟨g, cap, cur, rfl, h0 g rfl, hh, hn, hm, hs.trans (Nat.mul_one cap), fun i hi => ?_⟩
  obtain ⟨A, c, e, _, hC⟩ := hC
  injection e with e1 _ _
  subst e1
  obtain ⟨ad, eD, z⟩ := Kd.at_int hC (i : Int) (by omega) (by omega)
  injection eD with eD
  subst eD
  rw [gi_rd, Int.toNat_natCast, add_plain] at z
  unfold World.cell? at z
  simp [hh] at z
  exact z
theorem PRow.at {w : World} {ok : Nat → Prop} {v : Value} {n : Nat} {V : Nat → Int} (h : PRow w ok v n V) {i : Nat} (hi : i < n) : ∃ g c, v = .slice (some ⟨g, 0, none⟩) n c ∧ w.cell? ⟨g, i, none⟩ = some (.int .i64 (V i)) ∧ w.frozen? ⟨g, i, none⟩ = false := by
 rcases h with ⟨_, rfl⟩ | ⟨g, cap, cur, rfl, h2, h3, _, _, _, h4⟩
 ·omega
 ·exact ⟨g, cap, rfl, heap_cell h3 (h4 i hi), heap_free h3 i⟩
theorem PRow.own {w : World} {ok : Nat → Prop} {v : Value} {n : Nat} {V : Nat → Int} (h : PRow w ok v n V) : w.ownsRow 0 3 1 v n ((List.range n).map fun i => .int .i64 (V i)) := by
 refine ⟨by simp, ?_⟩
 rcases h with h | ⟨g, cap, cur, h1, h2, h3, h4, h5, h6, h7⟩
 ·exact .inl h
 ·refine .inr ⟨g, cap, cur, h1, Nat.zero_le _, h3, h4, h5, by omega, ?_⟩
  apply List.ext_getElem?
  intro i
  rw [Nat.mul_one, List.getElem?_take, List.getElem?_map]
  by_cases hi : i < n
  ·rw [if_pos hi, Array.getElem?_toList, h7 i hi, List.getElem?_range hi]; rfl
  ·rw [if_neg hi, List.getElem?_eq_none (by simpa using hi)]; rfl
def upd (V : Nat → Nat → Int) (j i : Nat) (x : Int) : Nat → Nat → Int := fun a b => if a = j ∧ b = i then x else V a b
theorem upd_at (V : Nat → Nat → Int) (j i : Nat) (x : Int) : upd V j i x j i = x := by unfold upd; rw [if_pos ⟨rfl, rfl⟩]
theorem upd_ne (V : Nat → Nat → Int) {j i a b : Nat} (x : Int) (h : a ≠ j ∨ b ≠ i) : upd V j i x a b = V a b := by unfold upd; rw [if_neg (by omega)]
structure Pile (w : World) (lo hi : Nat) (T : List Value) (N : Nat → Nat) (V : Nat → Nat → Int) : Prop where
 rows : ∀ j, j < T.length → PRow w (fun k => lo ≤ k ∧ k < hi) (va T j) (N j) (V j)
 apart : ∀ i j k, i < T.length → j < T.length → (va T i).ownBlock = some k → (va T j).ownBlock = some k → i = j
def InP (T : List Value) (k : Nat) : Prop := ∃ j, j < T.length ∧ (va T j).ownBlock = some k
section
variable {w w' : World} {lo hi : Nat} {T : List Value} {N : Nat → Nat} {V : Nat → Nat → Int}
theorem Pile.step (h : Pile w lo hi T N V) (hm : ∀ k, InP T k → k < w.heap.size → w'.heap[k]? = w.heap[k]?) : Pile w' lo hi T N V :=
 ⟨fun j hj => (h.rows j hj).move (fun k hk hlt => hm k ⟨j, hj, hk⟩ hlt), h.apart⟩
theorem Pile.below (h : Pile w lo hi T N V) (hb : Below w.heap.size w w') : Pile w' lo hi T N V := h.step (fun k _ hk => hb.block k hk)
theorem Pile.inP (h : Pile w lo hi T N V) {k : Nat} (hk : InP T k) : lo ≤ k ∧ k < hi ∧ k < w.heap.size := by
 obtain ⟨j, hj, e⟩ := hk
 have := (h.rows j hj).lt e
 exact ⟨this.1.1, this.1.2, this.2⟩
theorem Pile.frame {P : Nat → Prop} (h : Pile w lo hi T N V) (f : Mem.Frame P w w') (hP : ∀ k, InP T k → ¬ P k) : Pile w' lo hi T N V := h.step (fun k hk hlt => f.block k hlt (hP k hk))
theorem Pile.wide {lo' hi' : Nat} (h : Pile w lo hi T N V) (h1 : lo' ≤ lo) (h2 : hi ≤ hi') : Pile w lo' hi' T N V := ⟨fun j hj => (h.rows j hj).mono (fun k hk => ⟨by omega, by omega⟩), h.apart⟩
theorem Pile.congr {V' : Nat → Nat → Int} (h : Pile w lo hi T N V) (e : ∀ j i, j < T.length → i < N j → V' j i = V j i) : Pile w lo hi T N V' := by
 refine ⟨fun j hj => ?_, h.apart⟩
 rcases h.rows j hj with q | ⟨g, cap, cur, h1, h2, h3, h4, h5, h6, h7⟩
 ·exact .inl q
 ·exact .inr ⟨g, cap, cur, h1, h2, h3, h4, h5, h6, fun i hi => by rw [e j i hj hi]; exact h7 i hi⟩
theorem Pile.put (h : Pile w lo hi T N V) {j i : Nat} (hj : j < T.length) (hi2 : i < N j) (x : Int) :
  ∃ g c, va T j = .slice (some ⟨g, 0, none⟩) (N j) c ∧ w.cell? ⟨g, i, none⟩ = some (.int .i64 (V j i)) ∧ w.frozen? ⟨g, i, none⟩ = false ∧ InP T g ∧ Pile (w.setCell ⟨g, i, none⟩ (.int .i64 x)) lo hi T N (upd V j i x) := by
 obtain ⟨g, c, e, h1, h2⟩ := (h.rows j hj).at hi2
 have hg : (va T j).ownBlock = some g := by rw [e]; rfl
 refine ⟨g, c, e, h1, h2, ⟨j, hj, hg⟩, fun q hq => ?_, h.apart⟩
 by_cases hqj : q = j
 ·subst hqj
  rcases h.rows q hq with ⟨e2, _⟩ | ⟨g2, cap, cur, e2, a2, a3, a4, a5, a6, a7⟩
  ·rw [e2] at hg; simp [Value.ownBlock] at hg
  ·obtain rfl : g2 = g := by rw [e2] at hg; simpa [Value.ownBlock] using hg
   refine .inr ⟨g2, cap, _, e2, a2, heap_set a3 _, a4, a5, by simpa using a6, fun k hk => ?_⟩
   rw [Array.getElem?_setIfInBounds]
   by_cases hki : i = k
   ·subst hki
    rw [if_pos rfl, if_pos (by omega), upd_at]
   ·rw [if_neg hki, upd_ne _ _ (.inr (fun e => hki e.symm))]
    exact a7 k hk
 ·have := (h.rows q hq).move (w' := w.setCell ⟨g, i, none⟩ (.int .i64 x)) (fun k hk hlt => Below.heap_setCell _ _ _ _ (fun e => hqj (h.apart q j g hq hj (by rw [hk, e]) hg)))
  have e3 : upd V j i x q = V q := funext fun b => upd_ne _ _ (.inl hqj)
  rw [e3]
  exact this
theorem Pile.of_S {A : Option Addr} {n c : Nat} {r : List (List Int)} {ty : Nat} {ok : Nat → Prop} (hty : ty ≠ 3) (h : Kd.S KR ty w lo ok (.slice A n c) r) :
  ∃ T : List Value, T.length = r.length ∧ Pile w lo w.heap.size T (fun j => (gl r j).length) (fun j => gi (gl r j)) ∧ (∀ j, j < r.length → ∃ ad, A = some ad ∧ w.cell? (ad.add j) = some (va T j)) ∧ (∀ k, A.map (·.block) = some k → ¬ InP T k ∧ lo ≤ k ∧ k < w.heap.size) ∧ (∀ k, InP T k → ok k) := by
 have hown := Kd.S_typed h
 have hlt := Kd.S_lt h
 have hbase := Kd.S_base h
 obtain ⟨f, h⟩ := h
 obtain ⟨h0, inner, ho, hr⟩ := Kd.R_bound h
 have hsz : (Kd.tag f KR).sz = 1 := rfl
 have hil : inner.length = r.length := by have := ho.1; rw [List.length_zipIdx, hsz] at this; omega
 have hrow : ∀ j, j < r.length → Kd.R (Kd.int .i64) 3 w lo (fun k => ok k ∧ lo ≤ k ∧ k < w.heap.size ∧ f k = j) (va inner j) (gl r j) := fun j hj => by
  have hz : r.zipIdx[j]? = some (gl r j, j) := by rw [List.getElem?_zipIdx, gl_of hj, Nat.zero_add]; rfl
  obtain ⟨v, hv, hR⟩ := hr.2 j (gl r j, j) hz
  have e2 : (inner.drop (j * 1)).take 1 = [va inner j] := by
   rw [Nat.mul_one, List.drop_eq_getElem_cons (by omega), List.take_succ_cons, List.take_zero]
   simp [va, List.getD_eq_getElem?_getD, hil, hj]
  rw [hsz, e2] at hv
  injection hv with hv _
  rw [hv]
  exact Kd.R_mono hR (fun k hk => ⟨hk.1.1.1, hk.1.1.2.1, hk.1.1.2.2.1, hk.2⟩)
 refine ⟨inner, hil, ⟨fun j hj => ?_, fun i j k hi hj e1 e2 => ?_⟩, fun j hj => ?_, fun k hk => ?_, fun k ⟨j, hj, e⟩ => ((hrow j (by omega)).1 k e).1⟩
 ·exact (PRow.of_R (hrow j (by omega))).mono (fun k hk => ⟨hk.2.1, hk.2.2.1⟩)
 ·have a := ((hrow i (by omega)).1 k e1).2.2.2
  have b := ((hrow j (by omega)).1 k e2).2.2.2
  omega
 ·rcases ho.2 with ⟨e, e2⟩ | ⟨g, cap, cur, e, _, hh, hn, _, hs, ht⟩
  ·rw [List.length_zipIdx] at e2; omega
  ·injection e with e _ _
   refine ⟨_, e, ?_⟩
   rw [add_plain]
   refine heap_cell hh ?_
   have e4 : inner[j]? = some (va inner j) := va_of (by omega)
   generalize va inner j = vj at e4 ⊢
   rw [← ht, List.getElem?_take] at e4
   split at e4
   ·rw [Array.getElem?_toList] at e4; exact e4
   ·cases e4
 ·have hk' : (Value.slice A n c).ownBlock = some k := by
   cases A with
   | none => simp at hk
   | some a => simpa [Value.ownBlock] using hk
  refine ⟨fun ⟨j, hj, e⟩ => ?_, hbase k hk', hlt k hk'⟩
  obtain ⟨c1, hc1⟩ := hown k hk'
  obtain ⟨c2, hc2⟩ := Kd.R_typed (hrow j (by omega)) k e
  rw [hc1] at hc2
  injection hc2 with hc2
  injection hc2 with _ h3 _
  exact hty h3
end
def Ext (w : World) (S0 : Nat) (v0 v : Value) (n : Nat) : Prop := (∃ xs, w.ownsRow 0 3 1 v n xs) ∧ ∀ k, v.ownBlock = some k → v0.ownBlock = some k ∨ S0 ≤ k
theorem Ext.slice {w : World} {S0 : Nat} {v0 v : Value} {n : Nat} (h : Ext w S0 v0 v n) : ∃ A c, v = .slice A n c := by
 obtain ⟨xs, h1, h2 | ⟨g, cap, cur, h2, _⟩⟩ := h.1
 ·exact ⟨none, 0, by rw [h2.1, h2.2]⟩
 ·exact ⟨_, _, h2⟩
theorem Ext.start {w : World} {lo hi : Nat} {T : List Value} {N : Nat → Nat} {V : Nat → Nat → Int} (h : Pile w lo hi T N V) (S0 : Nat) {j : Nat} (hj : j < T.length) : Ext w S0 (va T j) (va T j) (N j) := ⟨⟨_, (h.rows j hj).own⟩, fun k hk => .inl hk⟩
section
variable {P : Program} {ops : Array Oper} {rest : List Oper} {o : Oper} {a : Act} {Q : Exit → Act → World → Prop}
theorem append_exact {W : World} (hgd : o.guard = none) (s x : Operand) (t e : TypeId) (z : Value) (bytes : Nat)
  (ho : o.op = .call { callee := .builtin .append, args := #[s, x], argTypes := #[t, t] })
  (ht : P.underlying t = some (.slice e)) (hinfo : (P.info? e).map (fun i => (i.zero, i.size, i.bytes)) = some (some z, 1, bytes)) (hz : z.cells.size = 1) (hb0 : 0 < bytes)
  (v : Value) (n : Nat) (xs : List Value) (y : Value) (hs : a.eval s = v) (hx : a.eval x = .slice (some ⟨W.heap.size, 0, none⟩) 1 1) (h1 : y.oneCell' = true)
  (HO : W.ownsRow 0 e 1 v n xs) (hl : (n + 1) * bytes ≤ 140737488355328)
  (h : ∀ v1 w1, w1.ownsRow 0 e 1 v1 (n + 1) (xs ++ [y]) → W.grownBy w1 v.ownBlock → ((v1.ownBlock = v.ownBlock ∧ ∀ g cur, v.ownBlock = some g → W.heap[g]? = some (.cells cur e (0, 0)) → ∃ cur', w1.heap[g]? = some (.cells cur' e (0, 0)) ∧ cur'.size = cur.size ∧ ∀ i, i < n → cur'[i]? = cur[i]?) ∨ (W.grownBy w1 none ∧ ∃ b, v1.ownBlock = some b ∧ W.heap.size ≤ b)) → wpList P ops Q rest (a.put o.dst v1) w1) :
  wpList P ops Q (o :: rest) a (W.alloc (.cells #[y] e)) := by
 obtain ⟨i0, hi, hzz⟩ := Option.map_eq_some_iff.1 hinfo
 simp only [Prod.mk.injEq] at hzz
 obtain ⟨hz0, hz1, hz2⟩ := hzz
 have hlen : n + 1 ≤ 140737488355328 := Nat.le_trans (Nat.le_mul_of_pos_right _ hb0) hl
 have hnews : ∀ j u, [y][j]? = some u → (W.alloc (.cells #[y] e)).cell? ((⟨W.heap.size, 0, none⟩ : Addr).add j) = some u := by
  simpa using World.news_of_block (cs := #[y]) (t := e) (fr := (0, 0)) (heap_alloc_new W (.cells #[y] e))
 have hone : ∀ u ∈ [y], u.oneCell' = true := by simpa using h1
 have hA : W.grownBy (W.alloc (.cells #[y] e)) none := World.grownBy_alloc W _ _
 rcases HO.2 with ⟨rfl, rfl⟩ | ⟨g, cap, cur, rfl, _, hg, hnc, hcm, hcs, htake⟩
 ·have hx0 : xs = [] := List.eq_nil_of_length_eq_zero (by simpa using HO.1)
  subst hx0
  refine wpList_append_grows (W.alloc (.cells #[y] e)) hgd s x t ho e i0 z 1 bytes ht hi hz0 hz1 hz2 hz (by omega) none 0 0 [] hs (fun _ => ⟨rfl, rfl⟩) rfl (fun b hb => by cases hb) ⟨W.heap.size, 0, none⟩ 1 1 [y] hx rfl hnews hone (by omega) (by simp only [maxLen]; omega) hl ?_
  intro v' w' hown hg2
  have hlow := own_weaken hown (Nat.zero_le _)
  refine h v' w' hlow (World.grownBy.trans (World.grownBy_alloc W _ _) ⟨hg2.os, hg2.tape, hg2.output, hg2.size, fun k hk _ => hg2.block k hk (by simp)⟩) (.inr ⟨World.grownBy.trans hA hg2, ?_⟩)
  rcases hown.2 with ⟨_, e0⟩ | ⟨b, _, _, rfl, hb, _⟩
  ·omega
  ·exact ⟨b, rfl, by simp at hb; omega⟩
 ·have hne : g ≠ W.heap.size := by have := lt_of hg; omega
  have hg' : (W.alloc (.cells #[y] e)).heap[g]? = some (.cells cur e (0, 0)) := heap_old hg _
  have hcur : cur.size = cap := by omega
  refine wpList_append_arg (W.alloc (.cells #[y] e)) hgd s x t ho e i0 z 1 bytes ht hi hz0 hz1 hz2 hz (by omega) g 0 n cap xs hs HO.1 (fun j u hj => ?_) ⟨W.heap.size, 0, none⟩ 1 1 [y] hx rfl hnews hone (fun hr j hj => ?_) (by simp only [maxLen]; omega) hl (fun hr => ?_) (fun hr v' w' hown hg2 => ?_)
  ·have := (HO.alloc (.cells #[y] e)).cells (g := g) rfl j u hj
   rw [add_plain] at this
   rw [Nat.zero_add]
   exact this
  ·obtain rfl : j = 0 := by simpa using hj
   refine ⟨?_, heap_free hg' _⟩
   have hlt2 : n < cur.size := by omega
   rw [heap_cell hg' (v := cur[n]) (by simp [Array.getElem?_eq_getElem hlt2])]
   rfl
  ·have e1 : ((W.alloc (.cells #[y] e)).setCells g (0 + n * 1) [y]) = (W.alloc (.cells #[y] e)).setCell ⟨g, n, none⟩ y := by
    rw [Nat.zero_add, Nat.mul_one]; rfl
   rw [e1]
   have hset := heap_set (i := n) hg' y
   refine h _ _ ⟨by simp; have := HO.1; omega, .inr ⟨g, cap, _, rfl, Nat.zero_le _, hset, hr, hcm, by simp; omega, ?_⟩⟩ ?_ (.inl ⟨rfl, fun g2 cur2 e2 hc2 => ?_⟩)
   ·apply List.ext_getElem?
    intro i
    have hxl : xs.length = n := by have := HO.1; omega
    rw [List.getElem?_take, Array.getElem?_toList, Array.getElem?_setIfInBounds]
    by_cases hi1 : i < n
    ·rw [if_pos (by omega), if_neg (by omega), List.getElem?_append_left (by omega), ← htake, List.getElem?_take, if_pos (by omega), Array.getElem?_toList]
    ·by_cases hi2 : i = n
     ·subst hi2
      rw [if_pos (by omega), if_pos rfl, if_pos (by omega), List.getElem?_append_right (by omega), hxl]
      simp
     ·rw [if_neg (by omega), List.getElem?_eq_none (by simp; omega)]
   ·exact World.grownBy.trans (World.grownBy_alloc W _ _) ⟨rfl, rfl, rfl, by simp [World.setCell], fun k _ hk => Below.heap_setCell _ _ _ _ (fun e => hk (by rw [e]; rfl))⟩
   ·obtain rfl : g = g2 := by simpa [Value.ownBlock] using e2
    rw [hg] at hc2
    injection hc2 with hc2
    injection hc2 with hc2 _ _
    subst hc2
    exact ⟨_, hset, by simp, fun i hi2 => by rw [Array.getElem?_setIfInBounds, if_neg (by omega)]⟩
  ·have hlow := own_weaken hown (Nat.zero_le _)
   refine h v' w' hlow (World.grownBy.trans (World.grownBy_alloc W _ _) ⟨hg2.os, hg2.tape, hg2.output, hg2.size, fun k hk _ => hg2.block k hk (by simp)⟩) (.inr ⟨World.grownBy.trans hA hg2, ?_⟩)
   rcases hown.2 with ⟨_, e0⟩ | ⟨b, _, _, rfl, hb, _⟩
   ·omega
   ·exact ⟨b, rfl, by simp at hb; omega⟩
theorem Pile.append {W : World} {lo hi : Nat} {T : List Value} {N : Nat → Nat} {V : Nat → Nat → Int} (hgd : o.guard = none) (s x : Operand) (t : TypeId)
  (ho : o.op = .call { callee := .builtin .append, args := #[s, x], argTypes := #[t, t] })
  (ht : P.underlying t = some (.slice 3)) (hinfo : (P.info? 3).map (fun i => (i.zero, i.size, i.bytes)) = some (some (.int .i64 0), 1, 8))
  (S0 j : Nat) (v : Value) (n : Nat) (y : Int) (hs : a.eval s = v) (hx : a.eval x = .slice (some ⟨W.heap.size, 0, none⟩) 1 1)
  (hP : Pile W lo hi T N V) (hj : j < T.length) (hn : N j ≤ n) (hE : Ext W S0 (va T j) v n) (hS : hi ≤ S0) (hSW : S0 ≤ W.heap.size) (hl : n ≤ 17000000000000)
  (h : ∀ A d w1, Pile w1 lo hi T N V → Ext w1 S0 (va T j) (.slice A (n + 1) d) (n + 1) → Mem.Frame (fun k => (va T j).ownBlock = some k ∨ S0 ≤ k) W w1 → (∀ g, (Value.slice A (n + 1) d).ownBlock = some g → A = some ⟨g, 0, none⟩ ∧ w1.cell? ⟨g, n, none⟩ = some (.int .i64 y)) → A ≠ none → wpList P ops Q rest (a.put o.dst (.slice A (n + 1) d)) w1) :
  wpList P ops Q (o :: rest) a (W.alloc (.cells #[.int .i64 y] 3)) := by
 obtain ⟨⟨xs, hown⟩, hE2⟩ := hE
 refine append_exact hgd s x t 3 (.int .i64 0) 8 ho ht hinfo rfl (by omega) v n xs (.int .i64 y) hs hx rfl hown (by omega) ?_
 intro v1 w1 hown1 hg1 hk
 have hxl : xs.length = n := by have := hown.1; omega
 have hat : ∀ k, v1.ownBlock = some k → (va T j).ownBlock = some k ∨ S0 ≤ k := fun k hk1 => by
  rcases hk with ⟨e, _⟩ | ⟨_, b, e, hb⟩
  ·exact hE2 k (by rw [← e]; exact hk1)
  ·rw [e] at hk1
   obtain rfl : b = k := by simpa using hk1
   exact .inr (by omega)
 have hPile : Pile w1 lo hi T N V := by
  refine ⟨fun q hq => ?_, hP.apart⟩
  by_cases hqj : q = j
  ·subst hqj
   rcases hk with ⟨e, hcur⟩ | ⟨hg0, _⟩
   ·rcases hP.rows q hq with e2 | ⟨g, cap, cur, e1, a2, a3, a4, a5, a6, a7⟩
    ·exact .inl e2
    ·by_cases hvb : v.ownBlock = some g
     ·obtain ⟨cur', b1, b2, b3⟩ := hcur g cur hvb a3
      exact .inr ⟨g, cap, cur', e1, a2, b1, a4, a5, by omega, fun i hi2 => by rw [b3 i (by omega)]; exact a7 i hi2⟩
     ·exact .inr ⟨g, cap, cur, e1, a2, by rw [hg1.block g (lt_of a3) (fun e => hvb e.symm)]; exact a3, a4, a5, a6, a7⟩
   ·exact (hP.rows q hq).move (fun k _ hlt => hg0.block k hlt (by simp))
  ·refine (hP.rows q hq).move (fun k hk1 hlt => hg1.block k hlt (fun e => ?_))
   rcases hE2 k e.symm with c | c
   ·exact hqj (hP.apart q j k hq hj hk1 c)
   ·have := ((hP.rows q hq).lt hk1).1; omega
 have hF : Mem.Frame (fun k => (va T j).ownBlock = some k ∨ S0 ≤ k) W w1 :=
  ⟨hg1.os, hg1.tape, hg1.output, hg1.size, fun k hlt hk1 => hg1.block k hlt (fun e => hk1 (hE2 k e.symm))⟩
 have hE1 : Ext w1 S0 (va T j) v1 (n + 1) := ⟨⟨_, hown1⟩, hat⟩
 have hcell : ∀ g, v1.ownBlock = some g → w1.cell? ⟨g, n, none⟩ = some (.int .i64 y) := fun g e => by
  have := hown1.cells e n (.int .i64 y) (by rw [List.getElem?_append_right (by omega), hxl]; simp)
  rw [add_plain] at this
  exact this
 rcases hown1.2 with ⟨_, e0⟩ | ⟨g, cap, cur, rfl, _⟩
 ·omega
 ·exact h _ _ _ hPile hE1 hF (fun g' e => by
   obtain rfl : g = g' := by simpa [Value.ownBlock] using e
   exact ⟨rfl, hcell g rfl⟩) (by simp)
end
structure Grid (w : World) (lo hi : Nat) (A : Option Addr) (T : List Value) (N : Nat → Nat) (V : Nat → Nat → Int) : Prop where
 pile : Pile w lo hi T N V
 outer : ∀ j, j < T.length → ∃ g, A = some ⟨g, 0, none⟩ ∧ w.cell? ⟨g, j, none⟩ = some (va T j)
 far : ∀ g, A = some ⟨g, 0, none⟩ → ¬ InP T g ∧ lo ≤ g ∧ g < hi
theorem Grid.of_S {w : World} {lo : Nat} {A : Option Addr} {n c : Nat} {r : List (List Int)} {ok : Nat → Prop} (h : Kd.S KR 28 w lo ok (.slice A n c) r) :
  ∃ T : List Value, T.length = r.length ∧ Grid w lo w.heap.size A T (fun j => (gl r j).length) (fun j => gi (gl r j)) := by
 obtain ⟨T, h1, h2, h3, h4, _⟩ := Pile.of_S (by decide) h
 refine ⟨T, h1, h2, fun j hj => ?_, fun g hg => ?_⟩
 ·obtain ⟨ad, e, hc⟩ := h3 j (by omega)
  subst e
  obtain ⟨g, rfl⟩ := Kd.R_head (Kd.S_R h)
  rw [add_plain] at hc
  exact ⟨g, rfl, hc⟩
 ·have := h4 g (by rw [hg]; rfl)
  exact ⟨this.1, this.2.1, this.2.2⟩
section
variable {w w' : World} {lo hi : Nat} {A : Option Addr} {T : List Value} {N : Nat → Nat} {V : Nat → Nat → Int}
theorem Grid.frame {P : Nat → Prop} (h : Grid w lo hi A T N V) (f : Mem.Frame P w w') (hP : ∀ k, lo ≤ k → k < hi → ¬ P k) : Grid w' lo hi A T N V := by
 refine ⟨h.pile.frame f (fun k hk => hP k (h.pile.inP hk).1 (h.pile.inP hk).2.1), fun j hj => ?_, h.far⟩
 obtain ⟨g, e, hc⟩ := h.outer j hj
 have := h.far g e
 exact ⟨g, e, (World.cell?_of_block (f.block g (cell_lt hc) (hP g this.2.1 this.2.2))).trans hc⟩
theorem Grid.outer_frame {P : Nat → Prop} (h : Grid w lo hi A T N V) {V' : Nat → Nat → Int} (hp : Pile w' lo hi T N V') (f : Mem.Frame P w w') (hP : ∀ g, A = some ⟨g, 0, none⟩ → ¬ P g) : Grid w' lo hi A T N V' := by
 refine ⟨hp, fun j hj => ?_, h.far⟩
 obtain ⟨g, e, hc⟩ := h.outer j hj
 exact ⟨g, e, (World.cell?_of_block (f.block g (cell_lt hc) (hP g e))).trans hc⟩
theorem Grid.congr {V' : Nat → Nat → Int} (h : Grid w lo hi A T N V) (e : ∀ j i, j < T.length → i < N j → V' j i = V j i) : Grid w lo hi A T N V' := ⟨h.pile.congr e, h.outer, h.far⟩
theorem Grid.put (h : Grid w lo hi A T N V) {j i : Nat} (hj : j < T.length) (hi2 : i < N j) (x : Int) :
  ∃ g c, va T j = .slice (some ⟨g, 0, none⟩) (N j) c ∧ w.cell? ⟨g, i, none⟩ = some (.int .i64 (V j i)) ∧ w.frozen? ⟨g, i, none⟩ = false ∧ InP T g ∧ Grid (w.setCell ⟨g, i, none⟩ (.int .i64 x)) lo hi A T N (upd V j i x) := by
 obtain ⟨g, c, e, h1, h2, h3, h4⟩ := h.pile.put hj hi2 x
 refine ⟨g, c, e, h1, h2, h3, h.outer_frame h4 ((Mem.Frame.refl (InP T) w).setCell (p := ⟨g, i, none⟩) h3 _) (fun g2 e2 => (h.far g2 e2).1)⟩
theorem Grid.row (h : Grid w lo hi A T N V) {j : Nat} (hj : j < T.length) : ∃ g B c, A = some ⟨g, 0, none⟩ ∧ va T j = .slice B (N j) c ∧ w.cell? ⟨g, j, none⟩ = some (.slice B (N j) c) := by
 obtain ⟨g, e, hc⟩ := h.outer j hj
 obtain ⟨B, c, e2⟩ := (h.pile.rows j hj).slice
 exact ⟨g, B, c, e, e2, by rw [hc, e2]⟩
end
structure Lsts (w : World) (lo hi : Nat) (A : Option Addr) (c : Nat) (xs : List (List Int)) : Prop where
 S : Kd.S KR 28 w lo (fun k => lo ≤ k ∧ k < hi) (.slice A xs.length c) xs
theorem Lsts.of {w : World} {lo : Nat} {A : Option Addr} {c : Nat} {xs : List (List Int)} {ok : Nat → Prop} (h : Kd.S KR 28 w lo ok (.slice A xs.length c) xs) : Lsts w lo w.heap.size A c xs :=
 ⟨Kd.S_mono (Kd.S_bound h) (fun k hk => ⟨hk.2.1, hk.2.2.1⟩)⟩
section
variable {w w' : World} {lo hi : Nat} {A : Option Addr} {c : Nat} {xs : List (List Int)}
theorem Lsts.frame {P : Nat → Prop} (h : Lsts w lo hi A c xs) (f : Mem.Frame P w w') (hP : ∀ k, lo ≤ k → k < hi → ¬ P k) : Lsts w' lo hi A c xs := ⟨Kd.S_step h.S (fun k hk hlt => f.block k hlt (hP k hk.1 hk.2))⟩
theorem Lsts.reads (h : Lsts w lo hi A c xs) : Kd.C KR w A xs.length xs ∧ xs.length ≤ c := ⟨(Kd.S_reads' h.S).2.2, (Kd.S_reads' h.S).2.1⟩
end
structure Heaps (w : World) (lo hi : Nat) (T : List Value) (D : List (List Int)) : Prop where
 len : T.length = D.length
 pile : Pile w lo hi T (fun j => (gl D j).length) (fun j => gi (gl D j))
theorem va_app1 (T T' : List Value) {j : Nat} (h : j < T.length) : va (T ++ T') j = va T j := by unfold va; simp [List.getD_eq_getElem?_getD, List.getElem?_append_left h]
theorem va_app2 (T T' : List Value) {j : Nat} (h : T.length ≤ j) : va (T ++ T') j = va T' (j - T.length) := by unfold va; simp [List.getD_eq_getElem?_getD, List.getElem?_append_right h]
theorem gl_app1 (T T' : List (List Int)) {j : Nat} (h : j < T.length) : gl (T ++ T') j = gl T j := by unfold gl; simp [List.getD_eq_getElem?_getD, List.getElem?_append_left h]
theorem gl_app2 (T T' : List (List Int)) {j : Nat} (h : T.length ≤ j) : gl (T ++ T') j = gl T' (j - T.length) := by unfold gl; simp [List.getD_eq_getElem?_getD, List.getElem?_append_right h]
theorem Heaps.nil (w : World) (lo hi : Nat) : Heaps w lo hi [] [] := ⟨rfl, ⟨fun j h => absurd h (by simp), fun i j k h => absurd h (by simp)⟩⟩
section
variable {w w' : World} {lo mid hi : Nat} {T T' : List Value} {D D' : List (List Int)}
theorem Heaps.app (h : Heaps w lo mid T D) (h' : Heaps w mid hi T' D') (h1 : lo ≤ mid) (h2 : mid ≤ hi) : Heaps w lo hi (T ++ T') (D ++ D') := by
 have hl := h.len
 have hl' := h'.len
 refine ⟨by simp [hl, hl'], ⟨fun j hj => ?_, fun i j k hi' hj e1 e2 => ?_⟩⟩
 ·rw [List.length_append] at hj
  by_cases c : j < T.length
  ·rw [va_app1 _ _ c, gl_app1 _ _ (by omega)]
   exact (h.pile.rows j c).mono (fun k hk => ⟨hk.1, by omega⟩)
  ·rw [va_app2 _ _ (by omega), gl_app2 _ _ (by omega), ← hl]
   exact (h'.pile.rows (j - T.length) (by omega)).mono (fun k hk => ⟨by omega, hk.2⟩)
 ·rw [List.length_append] at hi' hj
  by_cases c : i < T.length <;> by_cases d : j < T.length
  ·rw [va_app1 _ _ c] at e1
   rw [va_app1 _ _ d] at e2
   exact h.pile.apart i j k c d e1 e2
  ·rw [va_app1 _ _ c] at e1
   rw [va_app2 _ _ (by omega)] at e2
   have a := ((h.pile.rows i c).lt e1).1
   have b := ((h'.pile.rows (j - T.length) (by omega)).lt e2).1
   omega
  ·rw [va_app2 _ _ (by omega)] at e1
   rw [va_app1 _ _ d] at e2
   have a := ((h.pile.rows j d).lt e2).1
   have b := ((h'.pile.rows (i - T.length) (by omega)).lt e1).1
   omega
  ·rw [va_app2 _ _ (by omega)] at e1 e2
   have := h'.pile.apart _ _ k (by omega) (by omega) e1 e2
   omega
theorem Heaps.wide {lo' hi' : Nat} (h : Heaps w lo hi T D) (h1 : lo' ≤ lo) (h2 : hi ≤ hi') : Heaps w lo' hi' T D := ⟨h.len, h.pile.wide h1 h2⟩
theorem Heaps.below (h : Heaps w lo hi T D) (hb : Below w.heap.size w w') : Heaps w' lo hi T D := ⟨h.len, h.pile.below hb⟩
theorem Heaps.frame {P : Nat → Prop} (h : Heaps w lo hi T D) (f : Mem.Frame P w w') (hP : ∀ k, lo ≤ k → k < hi → ¬ P k) : Heaps w' lo hi T D := ⟨h.len, h.pile.frame f (fun k hk => hP k (h.pile.inP hk).1 (h.pile.inP hk).2.1)⟩
theorem Heaps.grown {v : Value} (h : Heaps w lo hi T D) (hty : ∀ k, v.ownBlock = some k → ∃ cells, w.heap[k]? = some (.cells cells 28 (0, 0))) (hg : w.grownBy w' v.ownBlock) : Heaps w' lo hi T D := by
 refine ⟨h.len, h.pile.step (fun k hk hlt => hg.block k hlt (fun e => ?_))⟩
 obtain ⟨j, hj, e1⟩ := hk
 obtain ⟨c1, hc1⟩ := hty k e.symm
 rcases h.pile.rows j hj with ⟨e2, _⟩ | ⟨g, cap, cur, e2, _, h3, _⟩
 ·rw [e2] at e1; simp [Value.ownBlock] at e1
 ·rw [e2] at e1
  obtain rfl : g = k := by simpa [Value.ownBlock] using e1
  rw [h3] at hc1
  injection hc1 with hc1
  injection hc1 with _ h5 _
  exact absurd h5 (by decide)
end
theorem Heaps.one {w : World} {lo : Nat} {ok : Nat → Prop} {v : Value} {xs : List Int} (h : Kd.R (Kd.int .i64) 3 w lo ok v xs) : Heaps w lo w.heap.size [v] [xs] := by
 refine ⟨rfl, ⟨fun j hj => ?_, fun i j k hi hj _ _ => ?_⟩⟩
 ·obtain rfl : j = 0 := by simpa using hj
  exact (PRow.of_R (Kd.R_bound h)).mono (fun k hk => ⟨hk.2.1, hk.2.2.1⟩)
 ·simp at hi hj; omega
structure Outer (w : World) (A : Option Addr) (T : List Value) : Prop where
 cells : ∀ j, j < T.length → ∃ g, A = some ⟨g, 0, none⟩ ∧ w.cell? ⟨g, j, none⟩ = some (va T j)
theorem Heaps.of_S {w : World} {lo : Nat} {A : Option Addr} {n c : Nat} {r : List (List Int)} {ok : Nat → Prop} (h : Kd.S KR 28 w lo ok (.slice A n c) r) :
  ∃ T : List Value, Heaps w lo w.heap.size T r ∧ Outer w A T ∧ ∀ k, InP T k → ok k := by
 obtain ⟨T, h1, h2, h3, h4, h5⟩ := Pile.of_S (by decide) h
 refine ⟨T, ⟨h1, h2⟩, Outer.mk (fun j hj => ?_), h5⟩
 obtain ⟨ad, e, hc⟩ := h3 j (by omega)
 subst e
 obtain ⟨g, rfl⟩ := Kd.R_head (Kd.S_R h)
 rw [add_plain] at hc
 exact ⟨g, rfl, hc⟩
theorem Outer.below {w w' : World} {A : Option Addr} {T : List Value} (h : Outer w A T) (hb : Below w.heap.size w w') : Outer w' A T := ⟨fun j hj => by
 obtain ⟨g, e, hc⟩ := h.cells j hj
 exact ⟨g, e, (hb.cell (cell_lt hc)).trans hc⟩⟩
def ones (G : List Value) : List (List Value) := G.map fun v => [v]
theorem ones_length (G : List Value) : (ones G).length = G.length := by unfold ones; simp
theorem ones_snoc (G : List Value) (v : Value) : ones (G ++ [v]) = ones G ++ [[v]] := by unfold ones; simp
theorem ones_app (G H : List Value) : ones (G ++ H) = ones G ++ ones H := by unfold ones; simp
theorem Outer.reads {w : World} {lo hi : Nat} {A : Option Addr} {T : List Value} {D : List (List Int)} (h : Outer w A T) (hP : Heaps w lo hi T D) (hl : T.length ≤ 9223372036854775807) : Kd.C (Kd.raw 1) w A T.length (ones T) := by
 refine ⟨ones_length T, hl, fun hp => ?_⟩
 obtain ⟨g, e, _⟩ := h.cells 0 hp
 refine ⟨_, e, fun j p hj => ?_⟩
 unfold ones at hj
 rw [List.getElem?_map] at hj
 obtain ⟨v, hv, rfl⟩ := Option.map_eq_some_iff.1 hj
 have hjl : j < T.length := (List.getElem?_eq_some_iff.1 hv).1
 obtain ⟨g2, e2, hc⟩ := h.cells j hjl
 obtain rfl : g = g2 := by rw [e] at e2; injection e2 with e2; injection e2
 have ev : va T j = v := by rw [va_of hjl] at hv; exact Option.some.inj hv
 refine ⟨[v], rfl, (show (Kd.raw 1).K w [v] [v] from ⟨rfl, rfl, fun u hu => ?_⟩), fun i u hu => ?_⟩
 ·rw [List.mem_singleton] at hu
  obtain ⟨B, c, es⟩ := (hP.pile.rows j hjl).slice
  rw [hu, ← ev, es]
  rfl
 ·obtain rfl : i = 0 := by
   rcases i with _ | i
   ·rfl
   ·simp at hu
  obtain rfl : v = u := by simpa using hu
  rw [show (Kd.raw 1).sz = 1 from rfl, Nat.mul_one, Nat.add_zero, add_plain, hc, ev]
theorem Heaps.grid {w : World} {lo hi base : Nat} {ok : Nat → Prop} {A : Option Addr} {n c : Nat} {T : List Value} {D : List (List Int)} (h : Heaps w lo hi T D) (hR : Kd.R (Kd.raw 1) 28 w base ok (.slice A n c) (ones T)) (h1 : lo ≤ base) (h2 : w.heap.size ≤ hi) : Grid w lo hi A T (fun j => (gl D j).length) (fun j => gi (gl D j)) := by
 refine ⟨h.pile, fun j hj => ?_, fun g hg => ?_⟩
 ·obtain ⟨e1, e2, hC⟩ := Kd.R_reads' hR
  obtain ⟨ad, e3, h3⟩ := hC.2.2 (by rw [ones_length]; omega)
  subst e3
  obtain ⟨g, rfl⟩ := Kd.R_head hR
  have hv : (ones T)[j]? = some [va T j] := by unfold ones; rw [List.getElem?_map, va_of hj]; rfl
  obtain ⟨cs, hcs, ⟨rfl, _, _⟩, hcell⟩ := h3 j _ hv
  have := hcell 0 _ rfl
  rw [show (Kd.raw 1).sz = 1 from rfl, Nat.mul_one, Nat.add_zero, add_plain] at this
  exact ⟨g, rfl, this⟩
 ·subst hg
  have a := Kd.R_base hR g rfl
  have b := Kd.R_lt hR g rfl
  refine ⟨fun ⟨j, hj, e⟩ => ?_, by omega, by omega⟩
  obtain ⟨c1, hc1⟩ := Kd.R_typed hR g rfl
  rcases h.pile.rows j hj with ⟨e2, _⟩ | ⟨g2, cap, cur, e2, _, h3, _⟩
  ·rw [e2] at e; simp [Value.ownBlock] at e
  ·rw [e2] at e
   obtain rfl : g2 = g := by simpa [Value.ownBlock] using e
   rw [h3] at hc1
   injection hc1 with hc1
   injection hc1 with _ h5 _
   exact absurd h5 (by decide)
end Go.Proofs.Ytkkhhbegeboonaa.Pile
