/- DERIVED. Texts that OrderCovers needs. -/
import Derived.Test.YtaepieadbfndnaaCOrderCoversb
import Derived.Deep.Slices
import Derived.Test.YtaepieadbfndnaaCOrderCoversa
import Derived.Deep.Onto
import Derived.Maps.Keyed
import Derived.WideKeyArr
import Derived.WideKeyElems
import Derived.WideKeyPair
import Derived.Maps.RangeRun
import Derived.Deep.QuietTactic
import Derived.StillTailTactics
import Derived.Defers
import Derived.Recover
import Derived.WalkLawsBesides
set_option linter.unusedVariables false
set_option linter.unusedSimpArgs false
set_option maxRecDepth 100000
set_option maxHeartbeats 64000000
namespace Go.Proofs.Ytaepieadbfndnaa
open Go.RowKit Go.Proofs.YtaepieadbfndnaaW.PrintWords Go.Proofs.YtaepieadbfndnaaW.PrintLast Go.Proofs.YtaepieadbfndnaaW.PrintMore
namespace Mem
structure Frame (S : Nat → Prop) (w w' : World) : Prop where
 os : w'.os = w.os
 tape : w'.tape = w.tape
 output : w'.output = w.output
 size : w.heap.size ≤ w'.heap.size
 block : ∀ k, k < w.heap.size → ¬ S k → w'.heap[k]? = w.heap[k]?
theorem Frame.refl (S : Nat → Prop) (w : World) : Frame S w w := ⟨rfl, rfl, rfl, Nat.le_refl _, fun _ _ _ => rfl⟩
theorem Frame.trans {S : Nat → Prop} {a b c : World} (h : Frame S a b) (k : Frame S b c) : Frame S a c :=
 ⟨k.os.trans h.os, k.tape.trans h.tape, k.output.trans h.output, Nat.le_trans h.size k.size, fun i hi hs => (k.block i (Nat.lt_of_lt_of_le hi h.size) hs).trans (h.block i hi hs)⟩
theorem Frame.mono {S T : Nat → Prop} {a b : World} (h : Frame S a b) (hst : ∀ k, k < a.heap.size → S k → T k) : Frame T a b := ⟨h.os, h.tape, h.output, h.size, fun i hi hs => h.block i hi (fun e => hs (hst i hi e))⟩
theorem Frame.drew {S : Nat → Prop} {a b : World} (h : Frame S a b) : Frame S a b.drew := ⟨h.os, h.tape, h.output, h.size, h.block⟩
theorem Frame.drewN {S : Nat → Prop} {a b : World} (h : Frame S a b) (n : Nat) : Frame S a (b.drewN n) := ⟨h.os, h.tape, h.output, h.size, h.block⟩
theorem Frame.setCell {S : Nat → Prop} {a b : World} (h : Frame S a b) {p : Addr} (hp : S p.block) (u : Value) : Frame S a (b.setCell p u) :=
 h.trans ⟨rfl, rfl, rfl, by simp [World.setCell], fun k _ hs => Below.heap_setCell _ _ _ _ (fun e => hs (e ▸ hp))⟩
theorem Frame.alloc {S : Nat → Prop} {a b : World} (h : Frame S a b) (o : Obj) : Frame S a (b.alloc o) :=
 h.trans ⟨rfl, rfl, rfl, by simp, fun k hk _ => Below.heap_alloc _ _ _ hk⟩
theorem Frame.below {S : Nat → Prop} {a b : World} (h : Frame S a b) {B : Nat} (hB : B ≤ a.heap.size) (hS : ∀ k, S k → B ≤ k) : Below B a b :=
 ⟨h.os, h.tape, h.output, h.size, fun k hk => h.block k (by omega) (fun e => by have := hS k e; omega)⟩
theorem Frame.of_below {S : Nat → Prop} {a b : World} (h : Below a.heap.size a b) : Frame S a b := ⟨h.os, h.tape, h.output, h.size, fun k hk _ => h.block k hk⟩
theorem Frame.blk {S : Nat → Prop} {a b : World} (h : Frame S a b) {k : Nat} {o : Obj} (hk : a.heap[k]? = some o) (hs : ¬ S k) : b.heap[k]? = some o := by
 rw [h.block k (by rw [Array.getElem?_eq_some_iff] at hk; exact hk.1) hs]; exact hk
theorem Frame.grown {S : Nat → Prop} {a b c : World} (h : Frame S a b) {row : Option Nat} (hg : b.grownBy c row) (hr : ∀ k, row = some k → S k) : Frame S a c :=
 h.trans ⟨hg.os, hg.tape, hg.output, hg.size, fun k hk hs => hg.block k hk (fun e => hs (hr k e.symm))⟩
theorem lt_of {w : World} {k : Nat} {o : Obj} (hk : w.heap[k]? = some o) : k < w.heap.size := by
 rw [Array.getElem?_eq_some_iff] at hk; exact hk.1
theorem heap_last (w : World) (o : Obj) : (w.alloc o).heap[w.heap.size]? = some o := by
 show (w.heap.push o)[w.heap.size]? = _
 simp
theorem heap_old {w : World} {k : Nat} {o : Obj} (h : w.heap[k]? = some o) (o' : Obj) : (w.alloc o').heap[k]? = some o := by
 rw [Below.heap_alloc _ _ _ (lt_of h)]; exact h
theorem heap_ne {w : World} {b i k : Nat} {v : Value} {o : Obj} (h : w.heap[k]? = some o) (hk : k ≠ b) : (w.setCell ⟨b, i, none⟩ v).heap[k]? = some o := by
 rw [Below.heap_setCell _ _ _ _ hk]; exact h
theorem heap_set {w : World} {b i : Nat} {c : Array Value} {T : TypeId} {f : Nat × Nat} (h : w.heap[b]? = some (.cells c T f)) (v : Value) : (w.setCell ⟨b, i, none⟩ v).heap[b]? = some (.cells (c.setIfInBounds i v) T f) := by
 simp [World.setCell, Array.getElem?_modify, h]
theorem heap_cell {w : World} {b i : Nat} {c : Array Value} {T : TypeId} {f : Nat × Nat} (h : w.heap[b]? = some (.cells c T f)) {v : Value} (hv : c[i]? = some v) : w.cell? ⟨b, i, none⟩ = some v := by
 simp [World.cell?, h, hv]
theorem heap_free {w : World} {b : Nat} {c : Array Value} {T : TypeId} (h : w.heap[b]? = some (.cells c T (0, 0))) (i : Nat) : w.frozen? ⟨b, i, none⟩ = false := by
 simp [World.frozen?, h]
theorem cell_lt {w : World} {a : Addr} {v : Value} (h : w.cell? a = some v) : a.block < w.heap.size := World.block_lt_of_cell? w a h
theorem cell_ne {w : World} {a : Addr} {v : Value} (h : w.cell? a = some v) {b i : Nat} (u : Value) (hb : a.block ≠ b) : (w.setCell ⟨b, i, none⟩ u).cell? a = some v := by
 unfold World.cell? at h ⊢
 rw [Below.heap_setCell _ _ _ _ hb]
 exact h
def gi (l : List Int) (i : Nat) : Int := l.getD i 0
theorem gi_rd (l : List Int) (i : Nat) : rd l (i : Int) = gi l i := by unfold rd gi; rw [Int.toNat_natCast]
theorem gi_set (l : List Int) (i j : Nat) (x : Int) : gi (l.set i x) j = if i = j ∧ j < l.length then x else gi l j := by
 unfold gi
 simp only [List.getD_eq_getElem?_getD, List.getElem?_set]
 by_cases h : i = j
 ·subst h
  by_cases h2 : i < l.length <;> simp [h2]
 ·simp [h]
theorem gi_of {l : List Int} {i : Nat} (h : i < l.length) : l[i]? = some (gi l i) := by
 unfold gi
 simp [List.getD_eq_getElem?_getD, h]
def IRow (w : World) (b : Nat) (l : List Int) : Prop := w.heap[b]? = some (.cells (l.map (Value.int .i64)).toArray 3 (0, 0))
theorem IRow.cell {w : World} {b : Nat} {l : List Int} (h : IRow w b l) {i : Nat} (hi : i < l.length) : w.cell? ⟨b, i, none⟩ = some (.int .i64 (gi l i)) :=
 heap_cell h (by simp [gi_of hi])
theorem IRow.free {w : World} {b : Nat} {l : List Int} (h : IRow w b l) (i : Nat) : w.frozen? ⟨b, i, none⟩ = false := heap_free h i
theorem IRow.put {w : World} {b : Nat} {l : List Int} (h : IRow w b l) (i : Nat) (x : Int) : IRow (w.setCell ⟨b, i, none⟩ (.int .i64 x)) b (l.set i x) := by
 unfold IRow
 rw [heap_set h]
 simp [List.map_set]
theorem IRow.ne {w : World} {b d i : Nat} {l : List Int} (h : IRow w b l) (v : Value) (hb : b ≠ d) : IRow (w.setCell ⟨d, i, none⟩ v) b l := heap_ne h hb
theorem IRow.frame {S : Nat → Prop} {w w' : World} {b : Nat} {l : List Int} (h : IRow w b l) (f : Frame S w w') (hs : ¬ S b) : IRow w' b l := f.blk h hs
theorem info_int : (Try.prog.info? 3).map (fun i => (i.zero, i.size, i.bytes)) = some (some (.int .i64 0), 1, 8) := by kernel_rfl
theorem made_int (n : Nat) : madeCells #[.int .i64 0] n = Array.replicate n (Value.int .i64 0) := by
 apply Array.ext
 ·simp [madeCells]
 ·intro i h1 h2
  simp [madeCells, Nat.mod_one]
theorem IRow.start (w : World) (n : Nat) : IRow (w.alloc (.cells (Array.replicate n (Value.int .i64 0)) 3 (0, 0))) w.heap.size (List.replicate n 0) := by
 have h := heap_last w (.cells (Array.replicate n (Value.int .i64 0)) 3 (0, 0))
 unfold IRow
 rw [h]
 simp
theorem IRow.own {w : World} {b base : Nat} {l : List Int} {ok : Nat → Prop} (h : IRow w b l) (hb : base ≤ b) (hl : l.length ≤ 9223372036854775807) (hok : ok b) : Kd.R (Kd.int .i64) 3 w base ok (.slice (some ⟨b, 0, none⟩) l.length l.length) l := by
 refine Kd.R_of_own ⟨by simp [encs], .inr ⟨b, l.length, _, rfl, hb, h, Nat.le_refl _, by unfold maxLen; simpa using hl, by simp, ?_⟩⟩ (fun k hk => ?_)
 ·simp [encs, List.take_of_length_le]
 ·obtain rfl : b = k := by simpa [Value.ownBlock] using hk
  exact hok
def gb (l : List Bool) (i : Nat) : Bool := l.getD i false
theorem gb_set (l : List Bool) (i j : Nat) (x : Bool) : gb (l.set i x) j = if i = j ∧ j < l.length then x else gb l j := by
 unfold gb
 simp only [List.getD_eq_getElem?_getD, List.getElem?_set]
 by_cases h : i = j
 ·subst h
  by_cases h2 : i < l.length <;> simp [h2]
 ·simp [h]
theorem gb_of {l : List Bool} {i : Nat} (h : i < l.length) : l[i]? = some (gb l i) := by
 unfold gb
 simp [List.getD_eq_getElem?_getD, h]
def BRow (w : World) (b : Nat) (l : List Bool) : Prop := w.heap[b]? = some (.cells (l.map Value.bool).toArray 4 (0, 0))
theorem BRow.cell {w : World} {b : Nat} {l : List Bool} (h : BRow w b l) {i : Nat} (hi : i < l.length) : w.cell? ⟨b, i, none⟩ = some (.bool (gb l i)) :=
 heap_cell h (by simp [gb_of hi])
theorem BRow.free {w : World} {b : Nat} {l : List Bool} (h : BRow w b l) (i : Nat) : w.frozen? ⟨b, i, none⟩ = false := heap_free h i
theorem BRow.put {w : World} {b : Nat} {l : List Bool} (h : BRow w b l) (i : Nat) (x : Bool) : BRow (w.setCell ⟨b, i, none⟩ (.bool x)) b (l.set i x) := by
 unfold BRow
 rw [heap_set h]
 simp [List.map_set]
theorem BRow.frame {S : Nat → Prop} {w w' : World} {b : Nat} {l : List Bool} (h : BRow w b l) (f : Frame S w w') (hs : ¬ S b) : BRow w' b l := f.blk h hs
theorem info_bool : (Try.prog.info? 4).map (fun i => (i.zero, i.size, i.bytes)) = some (some (.bool false), 1, 1) := by kernel_rfl
theorem made_bool (n : Nat) : madeCells #[.bool false] n = Array.replicate n (Value.bool false) := by
 apply Array.ext
 ·simp [madeCells]
 ·intro i h1 h2
  simp [madeCells, Nat.mod_one]
theorem BRow.start (w : World) (n : Nat) : BRow (w.alloc (.cells (Array.replicate n (Value.bool false)) 4 (0, 0))) w.heap.size (List.replicate n false) := by
 have h := heap_last w (.cells (Array.replicate n (Value.bool false)) 4 (0, 0))
 unfold BRow
 rw [h]
 simp
def gl (r : List (List Int)) (j : Nat) : List Int := r.getD j []
theorem gl_of {r : List (List Int)} {i : Nat} (h : i < r.length) : r[i]? = some (gl r i) := by
 unfold gl
 simp [List.getD_eq_getElem?_getD, h]
theorem gl_set (r : List (List Int)) (i j : Nat) (x : List Int) : gl (r.set i x) j = if i = j ∧ j < r.length then x else gl r j := by
 unfold gl
 simp only [List.getD_eq_getElem?_getD, List.getElem?_set]
 by_cases h : i = j
 ·subst h
  by_cases h2 : i < r.length <;> simp [h2]
 ·simp [h]
abbrev KR : Kd (List Int) := Kd.slice 3 (Kd.int .i64)
theorem row_at {w : World} {A : Option Addr} {r : List (List Int)} (h : Kd.C KR w A r.length r) {i : Nat} (hi : i < r.length) :
  ∃ ad B c, A = some ad ∧ w.cell? (ad.add i) = some (.slice B (gl r i).length c) ∧ (gl r i).length ≤ c ∧ Kd.C (Kd.int .i64) w B (gl r i).length (gl r i) := by
 obtain ⟨ad, cs, e, hl, ⟨B, c, hcs, hc, hr⟩, hcell⟩ := Kd.C_get h [] (i : Int) (by omega) (by omega)
 rw [Int.toNat_natCast] at hcs hcell hc hr
 refine ⟨ad, B, c, e, ?_, hc, hr⟩
 have := hcell 0 _ (by rw [hcs]; rfl)
 rw [show KR.sz = 1 from rfl, Nat.mul_one, Nat.add_zero] at this
 exact this
theorem C_le {α : Type} {d : Kd α} {w : World} {A : Option Addr} {n : Nat} {xs : List α} (h : d.C w A n xs) : n ≤ 9223372036854775807 := h.2.1
def pe (es : List (Int × Int)) (i : Nat) : Int × Int := es.getD i (0, 0)
theorem pe_of {es : List (Int × Int)} {i : Nat} (h : i < es.length) : es[i]? = some (pe es i) := by
 unfold pe
 simp [List.getD_eq_getElem?_getD, h]
def Pairs (w : World) (A : Option Addr) (es : List (Int × Int)) : Prop := ∀ i : Nat, i < es.length → ∃ ad, A = some ad ∧ w.cell? (ad.add (i * 2)) = some (.int .i64 (pe es i).1) ∧ w.cell? ⟨(ad.add (i * 2)).block, (ad.add (i * 2)).off + 1, none⟩ = some (.int .i64 (pe es i).2)
theorem Pairs.below {w w' : World} {A : Option Addr} {es : List (Int × Int)} (h : Pairs w A es) (hb : Below w.heap.size w w') : Pairs w' A es := by
 intro i hi
 obtain ⟨ad, e, h1, h2⟩ := h i hi
 exact ⟨ad, e, by rw [hb.cell (cell_lt h1)]; exact h1, by rw [hb.cell (cell_lt h2)]; exact h2⟩
theorem own_low {w : World} {B B' : Nat} {e : TypeId} {s n : Nat} {v : Value} {xs : List Value} (h : w.ownsRow B e s v n xs) (hb : B' ≤ B) : w.ownsRow B' e s v n xs := by
 refine ⟨h.1, ?_⟩
 rcases h.2 with h1 | ⟨g, cap, cur, h1, h2, h3⟩
 ·exact .inl h1
 ·exact .inr ⟨g, cap, cur, h1, by omega, h3⟩
theorem C_drop {α : Type} {d : Kd α} {w : World} {A : Option Addr} {c a : Nat} {xs : List α} (h : d.C w A xs.length xs) (hc : xs.length ≤ c) (ha : a ≤ xs.length) : d.C w (if c = a then A else A.map (·.add (a * d.sz))) (xs.length - a) (xs.drop a) := by
 refine ⟨by simp, by have := h.2.1; omega, fun hp => ?_⟩
 obtain ⟨ad, e, hcell⟩ := h.2.2 (by omega)
 refine ⟨ad.add (a * d.sz), by rw [if_neg (by omega), e]; rfl, fun j p hj => ?_⟩
 rw [List.getElem?_drop] at hj
 obtain ⟨cs, h1, h2, h3⟩ := hcell (a + j) p hj
 refine ⟨cs, h1, h2, fun i u hu => ?_⟩
 rw [Go.Deep.add_add]
 have := h3 i u hu
 rw [Nat.add_mul] at this
 rw [show a * d.sz + (j * d.sz + i) = a * d.sz + j * d.sz + i by omega]
 exact this
theorem C_take {α : Type} {d : Kd α} {w : World} {A : Option Addr} {c a : Nat} {xs : List α} (h : d.C w A xs.length xs) (hc : xs.length ≤ c) (ha : a ≤ xs.length) : d.C w (if c = 0 then A else A.map (·.add (0 * d.sz))) a (xs.take a) := by
 refine ⟨by simp; omega, by have := h.2.1; omega, fun hp => ?_⟩
 obtain ⟨ad, e, hcell⟩ := h.2.2 (by omega)
 refine ⟨ad.add (0 * d.sz), by rw [if_neg (by omega), e]; rfl, fun j p hj => ?_⟩
 have hja : j < a := by
  have := (List.getElem?_eq_some_iff.1 hj).1
  simp at this; omega
 rw [List.getElem?_take, if_pos hja] at hj
 obtain ⟨cs, h1, h2, h3⟩ := hcell j p hj
 refine ⟨cs, h1, h2, fun i u hu => ?_⟩
 rw [Go.Deep.add_add]
 have := h3 i u hu
 rw [show 0 * d.sz + (j * d.sz + i) = j * d.sz + i by omega]
 exact this
theorem slice_from (A : Option Addr) (n c a : Nat) (ha : a ≤ n) (W : World) : (Instr.slice 27 (.slice A n c) (some (.int .i64 (a : Int))) none none).run Try.prog W = .ok (.slice (if c = a then A else A.map (·.add (a * 1))) (n - a) (c - a)) W := by
 rw [run_slice_l W 27 A n c Try.underlying27 .i64 (a : Int) (by omega) (by omega), Int.toNat_natCast]
 have hs : ∀ W : World, (sizeOf (Try.prog.elem 27)).run Try.prog W = .ok 1 W := fun W => by kernel_rfl
 rw [hs]
 rfl
theorem slice_to (A : Option Addr) (n c a : Nat) (ha : a ≤ c) (W : World) : (Instr.slice 27 (.slice A n c) none (some (.int .i64 (a : Int))) none).run Try.prog W = .ok (.slice (if c = 0 then A else A.map (·.add (0 * 1))) a c) W := by
 rw [run_slice_h W 27 A n c Try.underlying27 .i64 (a : Int) (by omega) (by omega), Int.toNat_natCast]
 have hs : ∀ W : World, (sizeOf (Try.prog.elem 27)).run Try.prog W = .ok 1 W := fun W => by kernel_rfl
 rw [hs]
 rfl
theorem from_reads {A : Option Addr} {c a : Nat} {l : List Int} {w : World} (h : Kd.C (Kd.int .i64) w A l.length l) (hc : l.length ≤ c) (ha : a ≤ l.length) : ∃ X, (∀ W : World, (Instr.slice 27 (.slice A l.length c) (some (.int .i64 (a : Int))) none none).run Try.prog W = .ok (.slice X (l.length - a) (c - a)) W) ∧ Kd.C (Kd.int .i64) w X (l.length - a) (l.drop a) := ⟨_, slice_from A l.length c a ha, C_drop h hc ha⟩
theorem to_reads {A : Option Addr} {c a : Nat} {l : List Int} {w : World} (h : Kd.C (Kd.int .i64) w A l.length l) (hc : l.length ≤ c) (ha : a ≤ l.length) : ∃ X, (∀ W : World, (Instr.slice 27 (.slice A l.length c) none (some (.int .i64 (a : Int))) none).run Try.prog W = .ok (.slice X a c) W) ∧ Kd.C (Kd.int .i64) w X a (l.take a) := ⟨_, slice_to A l.length c a (by omega), C_take h hc ha⟩
def va (vs : List Value) (j : Nat) : Value := vs.getD j (.slice none 0 0)
theorem va_set (gs : List Value) (i j : Nat) (x : Value) : va (gs.set i x) j = if i = j ∧ j < gs.length then x else va gs j := by
 unfold va
 simp only [List.getD_eq_getElem?_getD, List.getElem?_set]
 by_cases h : i = j
 ·subst h
  by_cases h2 : i < gs.length <;> simp [h2]
 ·simp [h]
theorem va_of {vs : List Value} {j : Nat} (h : j < vs.length) : vs[j]? = some (va vs j) := by
 unfold va
 simp [List.getD_eq_getElem?_getD, h]
structure Rows2 (w : World) (B bo : Nat) (vs : List Value) (gs : List (List Int)) : Prop where
 len : vs.length = gs.length
 out : w.heap[bo]? = some (.cells vs.toArray 27 (0, 0))
 own : ∀ j, j < gs.length → w.ownsRow B 3 1 (va vs j) (gl gs j).length (encs (Value.int .i64) (gl gs j))
 col : ∃ f : Nat → Nat, ∀ j, j < gs.length → ∀ k, (va vs j).ownBlock = some k → f k = j ∧ k ≠ bo
 base : B ≤ w.heap.size
theorem Rows2.cell {w : World} {B bo : Nat} {vs : List Value} {gs : List (List Int)} (h : Rows2 w B bo vs gs) {j : Nat} (hj : j < gs.length) : w.cell? ⟨bo, j, none⟩ = some (va vs j) := by
 have hl := h.len
 exact heap_cell h.out (by simp [va_of (show j < vs.length by omega)])
theorem Rows2.free {w : World} {B bo : Nat} {vs : List Value} {gs : List (List Int)} (h : Rows2 w B bo vs gs) (j : Nat) : w.frozen? ⟨bo, j, none⟩ = false := heap_free h.out j
theorem Rows2.below {w w1 : World} {B bo : Nat} {vs : List Value} {gs : List (List Int)} (h : Rows2 w B bo vs gs) (hb : Below w.heap.size w w1) : Rows2 w1 B bo vs gs :=
 ⟨h.len, (hb.block _ (lt_of h.out)).trans h.out, fun j hj => own_move (h.own j hj) (fun k hk => hb.block k ((h.own j hj).lt k hk).2), h.col, Nat.le_trans h.base hb.size⟩
theorem Rows2.put {w w1 : World} {B bo : Nat} {vs : List Value} {gs : List (List Int)} (h : Rows2 w B bo vs gs) (hb : Below w.heap.size w w1) {k : Nat} (hk : k < gs.length) {v' : Value} {g' : List Int}
  (hown : w1.ownsRow w.heap.size 3 1 v' g'.length (encs (Value.int .i64) g')) : Rows2 (w1.setCell ⟨bo, k, none⟩ v') B bo (vs.set k v') (gs.set k g') := by
 have hl := h.len
 have hbo := lt_of h.out
 obtain ⟨f, hf⟩ := h.col
 have h1 := h.below hb
 refine ⟨by simp [h.len], ?_, ?_, ⟨fun b => if v'.ownBlock = some b then k else f b, ?_⟩, by simpa [World.setCell] using h1.base⟩
 ·rw [heap_set h1.out]; simp
 ·intro j hj
  rw [List.length_set] at hj
  rw [gl_set, va_set]
  by_cases hkj : k = j
  ·subst hkj
   rw [if_pos ⟨rfl, by omega⟩, if_pos ⟨rfl, by omega⟩]
   exact own_low (own_move hown (fun q hq => Below.heap_setCell _ _ _ _ (fun e => by have := (hown.lt q hq).1; simp at e; omega))) h.base
  ·rw [if_neg (by simp [hkj]), if_neg (by simp [hkj])]
   exact own_move (h1.own j hj) (fun q hq => Below.heap_setCell _ _ _ _ (fun e => (hf j hj q hq).2 e))
 ·intro j hj q hq
  rw [List.length_set] at hj
  rw [va_set] at hq
  by_cases hkj : k = j
  ·subst hkj
   rw [if_pos ⟨rfl, by omega⟩] at hq
   exact ⟨by simp [hq], fun e => by have := (hown.lt q hq).1; omega⟩
  ·rw [if_neg (by simp [hkj])] at hq
   refine ⟨?_, (hf j hj q hq).2⟩
   show (if v'.ownBlock = some q then k else f q) = j
   rw [if_neg (fun e => by have h2 := (hown.lt q e).1; have h3 := ((h.own j hj).lt q hq).2; omega)]
   exact (hf j hj q hq).1
theorem info_ints : (Try.prog.info? 27).map (fun i => (i.zero, i.size, i.bytes)) = some (some (.slice none 0 0), 1, 24) := by kernel_rfl
theorem made_nil (n : Nat) : madeCells #[.slice none 0 0] n = Array.replicate n (Value.slice none 0 0) := by
 apply Array.ext
 ·simp [madeCells]
 ·intro i h1 h2
  simp [madeCells, Nat.mod_one]
theorem va_nil (n j : Nat) : va (List.replicate n (.slice none 0 0)) j = .slice none 0 0 := by
 unfold va
 by_cases h : j < n <;> simp [List.getD_eq_getElem?_getD, List.getElem?_replicate, h]
theorem gl_nil (n j : Nat) : gl (List.replicate n []) j = [] := by
 unfold gl
 by_cases h : j < n <;> simp [List.getD_eq_getElem?_getD, List.getElem?_replicate, h]
theorem Rows2.start (w : World) (n : Nat) : Rows2 (w.alloc (.cells (Array.replicate n (Value.slice none 0 0)) 27 (0, 0))) (w.heap.size + 1) w.heap.size (List.replicate n (.slice none 0 0)) (List.replicate n []) := by
 refine ⟨by simp, by rw [heap_last]; simp, fun j hj => ?_, ⟨fun _ => 0, fun j hj k hk => ?_⟩, by simp⟩
 ·rw [va_nil, gl_nil]
  exact own_nil _ _ _ _
 ·rw [va_nil] at hk
  simp [Value.ownBlock] at hk
theorem Rows2.tells {w : World} {B bo base : Nat} {vs : List Value} {gs : List (List Int)} (h : Rows2 w B bo vs gs) (hb : base ≤ bo) (hB : base ≤ B) (hl : gs.length ≤ 9223372036854775807) :
  Kd.S KR 27 w base (fun _ => True) (.slice (some ⟨bo, 0, none⟩) gs.length gs.length) gs := by
 obtain ⟨f, hf⟩ := h.col
 have hlen := h.len
 have hsz : (Kd.tag f KR).sz = 1 := rfl
 refine ⟨f, fun _ _ => trivial, vs, ⟨by simp [h.len, hsz], .inr ⟨bo, gs.length, vs.toArray, by simp, hb, h.out, by simp, by unfold maxLen; simpa using hl, by simp [h.len, hsz], ?_⟩⟩, by simp [h.len, hsz], fun j p hj => ?_⟩
 ·rw [List.take_of_length_le]
  rw [List.length_zipIdx, hsz]
  simp [hlen]
 ·rw [List.getElem?_zipIdx] at hj
  obtain ⟨g, hg, rfl⟩ := Option.map_eq_some_iff.1 hj
  have hj2 : j < gs.length := (List.getElem?_eq_some_iff.1 hg).1
  have e1 : gl gs j = g := by unfold gl; rw [List.getD_eq_getElem?_getD, hg]; rfl
  have e2 : (vs.drop (j * 1)).take 1 = [va vs j] := by
   rw [Nat.mul_one, List.drop_eq_getElem_cons (by rw [h.len]; exact hj2), List.take_succ_cons, List.take_zero]
   simp [va, List.getD_eq_getElem?_getD, h.len, hj2]
  refine ⟨va vs j, e2, ?_⟩
  have ho := own_low (h.own j hj2) hB
  rw [e1] at ho
  refine Kd.R_of_own ho (fun k hk => ?_)
  have := hf j hj2 k hk
  refine ⟨⟨trivial, fun e => this.2 (Option.some.inj (show some k = some bo from e))⟩, ?_⟩
  show f k = 0 + j
  omega
def lits (w : World) : List (List Int) → World
 | [] => w
 | l :: t => lits (w.alloc (.cells (l.map (Value.int .i64)).toArray 3 (0, 0))) t
def outer (b : Nat) : List (List Int) → List Value
 | [] => []
 | l :: t => .slice (some ⟨b, 0, none⟩) l.length l.length :: outer (b + 1) t
theorem outer_at (r : List (List Int)) : ∀ (b j : Nat), j < r.length → (outer b r)[j]? = some (.slice (some ⟨b + j, 0, none⟩) (gl r j).length (gl r j).length) := by
 induction r with
 | nil => intro b j h; simp at h
 | cons l t ih =>
  intro b j h
  cases j with
  | zero => simp [outer, gl]
  | succ j =>
   have := ih (b + 1) j (by simpa using h)
   rw [show b + 1 + j = b + (j + 1) by omega] at this
   simpa [outer, gl] using this
theorem lits_size (r : List (List Int)) : ∀ w, (lits w r).heap.size = w.heap.size + r.length := by
 induction r with
 | nil => intro w; rfl
 | cons l t ih => intro w; rw [lits, ih]; simp; omega
theorem lits_below (r : List (List Int)) : ∀ w, Below w.heap.size w (lits w r) := by
 induction r with
 | nil => intro w; exact Below.refl _ _
 | cons l t ih =>
  intro w
  have h1 := (Below.refl w.heap.size w).alloc (Nat.le_refl _) (.cells (l.map (Value.int .i64)).toArray 3 (0, 0))
  exact h1.trans ((ih _).mono h1.size)
theorem lits_at (r : List (List Int)) : ∀ w (j : Nat), j < r.length → IRow (lits w r) (w.heap.size + j) (gl r j) := by
 induction r with
 | nil => intro w j h; simp at h
 | cons l t ih =>
  intro w j h
  cases j with
  | zero =>
   have hb := lits_below t (w.alloc (.cells (l.map (Value.int .i64)).toArray 3 (0, 0)))
   exact (hb.block _ (by simp)).trans (heap_last w _)
  | succ j =>
   have := ih (w.alloc (.cells (l.map (Value.int .i64)).toArray 3 (0, 0))) j (by simpa using h)
   rw [show (w.alloc (.cells (l.map (Value.int .i64)).toArray 3 (0, 0))).heap.size + j = w.heap.size + (j + 1) by simp; omega] at this
   exact this
theorem row_reads {w : World} {b : Nat} {l : List Int} (h : IRow w b l) (hl : l.length ≤ 9223372036854775807) : Kd.C (Kd.int .i64) w (some ⟨b, 0, none⟩) l.length l :=
 (Kd.R_reads' (IRow.own (base := 0) (ok := fun _ => True) h (Nat.zero_le _) hl trivial)).2.2
theorem lits_reads (w : World) (r : List (List Int)) (hr : r.length ≤ 9223372036854775807) (hl : ∀ j, j < r.length → (gl r j).length ≤ 9223372036854775807) :
  Kd.C KR ((lits w r).alloc (.cells (outer w.heap.size r).toArray 27 (0, 0))) (some ⟨w.heap.size + r.length, 0, none⟩) r.length r := by
 refine ⟨rfl, hr, fun _ => ⟨_, rfl, fun j p hj => ?_⟩⟩
 have hj2 : j < r.length := (List.getElem?_eq_some_iff.1 hj).1
 have e1 : gl r j = p := by unfold gl; rw [List.getD_eq_getElem?_getD, hj]; rfl
 refine ⟨[.slice (some ⟨w.heap.size + j, 0, none⟩) p.length p.length], rfl, ⟨_, _, rfl, Nat.le_refl _, ?_⟩, fun i u hu => ?_⟩
 ·have h := heap_old (lits_at r w j hj2) (.cells (outer w.heap.size r).toArray 27 (0, 0))
  rw [e1] at h
  exact row_reads h (by rw [← e1]; exact hl j hj2)
 ·obtain rfl : i = 0 := by
   rcases i with _ | i
   ·rfl
   ·simp at hu
  have h := heap_last (lits w r) (.cells (outer w.heap.size r).toArray 27 (0, 0))
  rw [lits_size] at h
  rw [add_plain]
  have hsz : KR.sz = 1 := rfl
  refine heap_cell h ?_
  rw [hsz, Nat.mul_one, Nat.add_zero, List.getElem?_toArray, outer_at r _ j hj2, e1]
  simpa using hu
theorem lits_all (w : World) (r : List (List Int)) : Below w.heap.size w ((lits w r).alloc (.cells (outer w.heap.size r).toArray 27 (0, 0))) := (lits_below r w).alloc (by rw [lits_size]; omega) _
end Mem
namespace Face
open Mem
def goFace (st : List Int) : Nat → List Bool → List Int → Int → List Bool × List Int
 | 0, S, f, k => (S, f)
 | n + 1, S, f, k => if gb S k.toNat = true then (S, f) else goFace st n (S.set k.toNat true) (f ++ [k]) (gi st k.toNat)
def facesTo (st : List Int) (M : Nat) : Nat → List Bool × List (List Int)
 | 0 => (List.replicate M false, [])
 | h + 1 => if gb (facesTo st M h).1 h = true then facesTo st M h else ((goFace st M (facesTo st M h).1 [] (h : Int)).1, (facesTo st M h).2 ++ [(goFace st M (facesTo st M h).1 [] (h : Int)).2])
def facesL (st : List Int) : List (List Int) := (facesTo st st.length st.length).2
def left (S : List Bool) : Nat := S.countP fun b => !b
theorem left_le (S : List Bool) : left S ≤ S.length := List.countP_le_length
theorem left_set : ∀ (S : List Bool) (i : Nat), i < S.length → gb S i = false → left (S.set i true) + 1 = left S
 | [], i, h, _ => absurd h (by simp)
 | b :: S, 0, _, h => by
  have : b = false := h
  subst this
  simp [left]
 | b :: S, i + 1, h, e => by
  have ih := left_set S i (by simpa using h) e
  unfold left at ih ⊢
  rw [List.set_cons_succ, List.countP_cons, List.countP_cons]
  omega
theorem left_zero {S : List Bool} (h : left S = 0) {i : Nat} (hi : i < S.length) : gb S i = true := by
 cases e : gb S i with
 | true => rfl
 | false => have := left_set S i hi e; omega
structure Fits (st : List Int) : Prop where
 len : st.length ≤ 8388608
 inn : ∀ i, i < st.length → 0 ≤ gi st i ∧ gi st i < (st.length : Int)
def fitsB (st : List Int) : Bool := decide (st.length ≤ 8388608) && st.all fun x => decide (0 ≤ x ∧ x < (st.length : Int))
theorem fits_iff {st : List Int} : fitsB st = true ↔ Fits st := by
 unfold fitsB
 simp only [Bool.and_eq_true, decide_eq_true_eq, List.all_eq_true]
 constructor
 ·rintro ⟨h1, h2⟩
  exact ⟨h1, fun i hi => h2 _ (List.mem_of_getElem? (gi_of hi))⟩
 ·intro h
  refine ⟨h.len, fun x hx => ?_⟩
  obtain ⟨i, hi, rfl⟩ := List.getElem_of_mem hx
  have := h.inn i hi
  have e : gi st i = st[i] := by unfold gi; rw [List.getD_eq_getElem?_getD, List.getElem?_eq_getElem hi]; rfl
  rw [e] at this
  exact this
theorem goFace_len {st : List Int} : ∀ (n : Nat) (S : List Bool) (f : List Int) (k : Int), (goFace st n S f k).1.length = S.length
 | 0, _, _, _ => rfl
 | n + 1, S, f, k => by
  unfold goFace
  split
  ·rfl
  ·rw [goFace_len n]; simp
theorem facesTo_len (st : List Int) (M : Nat) : ∀ h, (facesTo st M h).1.length = M ∧ (facesTo st M h).2.length ≤ h
 | 0 => by simp [facesTo]
 | h + 1 => by
  obtain ⟨h1, h2⟩ := facesTo_len st M h
  unfold facesTo
  split
  ·exact ⟨h1, by omega⟩
  ·refine ⟨by simp only; rw [goFace_len]; exact h1, by simp; omega⟩
end Face
namespace Ring
theorem ring_perm {f : Nat → Nat} {l : List Nat} (h : Ring f l) : (l.map f).Perm l := by
 obtain ⟨h1, h2⟩ := h
 cases l with
 | nil => exact absurd rfl h1
 | cons a t =>
  unfold Lead at h2
  rw [h2]
  simp
theorem Dec.map_perm {f : Nat → Nat} : ∀ {L : List (List Nat)}, Dec f L → (L.flatten.map f).Perm L.flatten
 | [], _ => List.Perm.refl _
 | l :: L, h => by
  have hn := h.nodup
  rw [List.flatten_cons, List.nodup_append] at hn
  rw [List.flatten_cons, List.map_append]
  exact (ring_perm (h.ring l (List.mem_cons_self ..))).append (Dec.map_perm ⟨fun m hm => h.ring m (List.mem_cons_of_mem _ hm), hn.2.1⟩)
theorem inj_of_nodup {f : Nat → Nat} : ∀ {l : List Nat}, (l.map f).Nodup → ∀ x ∈ l, ∀ y ∈ l, f x = f y → x = y
 | [], _, x, hx, _, _, _ => absurd hx (by simp)
 | a :: l, h, x, hx, y, hy, e => by
  rw [List.map_cons, List.nodup_cons] at h
  rcases List.mem_cons.1 hx with hx | hx <;> rcases List.mem_cons.1 hy with hy | hy
  ·rw [hx, hy]
  ·rw [hx] at e
   exact absurd (List.mem_map.2 ⟨y, hy, e.symm⟩) h.1
  ·rw [hy] at e
   exact absurd (List.mem_map.2 ⟨x, hx, e⟩) h.1
  ·exact inj_of_nodup h.2 x hx y hy e
theorem Dec.inj {f : Nat → Nat} {L : List (List Nat)} (h : Dec f L) : ∀ x ∈ L.flatten, ∀ y ∈ L.flatten, f x = f y → x = y := inj_of_nodup ((h.map_perm.nodup_iff).2 h.nodup)
theorem Dec.closed {f : Nat → Nat} {L : List (List Nat)} (h : Dec f L) {x : Nat} (hx : x ∈ L.flatten) : f x ∈ L.flatten := by
 obtain ⟨l, hl, hxl⟩ := List.mem_flatten.1 hx
 exact List.mem_flatten.2 ⟨l, hl, (h.ring l hl).closed hxl⟩
theorem Dec.back {f : Nat → Nat} {L : List (List Nat)} (h : Dec f L) {x : Nat} (hx : x ∈ L.flatten) : ∃ y ∈ L.flatten, f y = x := by
 have := h.map_perm.mem_iff.2 hx
 exact List.mem_map.1 this
theorem lead_last {f : Nat → Nat} {l : List Nat} {b : Nat} (h : Lead f l b) (hl : l ≠ []) : ∃ q ∈ l, f q = b := by
 have : b ∈ l.map f := by unfold Lead at h; rw [h]; simp
 exact List.mem_map.1 this
end Ring
namespace Face
open Mem Ring
def zN (l : List Nat) : List Int := l.map fun (x : Nat) => (x : Int)
theorem zN_snoc (l : List Nat) (x : Nat) : zN l ++ [(x : Int)] = zN (l ++ [x]) := by unfold zN; simp
structure Steps (f : Nat → Nat) (st : List Int) : Prop where
 at_ : ∀ i, i < st.length → gi st i = (f i : Int)
 inn : ∀ i, i < st.length → f i < st.length
 inj : ∀ i j, i < st.length → j < st.length → f i = f j → i = j
section
variable {f : Nat → Nat} {st : List Int}
theorem Steps.close (h : Steps f st) {D fc : List Nat} {k hd : Nat} (hD : ∀ x ∈ D, x < st.length) (hb : ∀ x ∈ D, ∃ y ∈ D, f y = x) (hhd : hd ∉ D) (hn : fc.Nodup) (hfc : ∀ x ∈ fc, x < st.length ∧ x ∉ D) (hl : (fc = [] ∧ k = hd) ∨ (fc ≠ [] ∧ fc.headD 0 = hd ∧ Lead f fc k)) (hk : k ∈ D ∨ k ∈ fc) :
  fc ≠ [] ∧ fc.headD 0 = hd ∧ Ring f fc := by
 rcases hl with ⟨rfl, rfl⟩ | ⟨h1, h2, h3⟩
 ·rcases hk with q | q
  ·exact absurd q hhd
  ·cases q
 ·refine ⟨h1, h2, h1, ?_⟩
  obtain ⟨q, hq, e⟩ := lead_last h3 h1
  rcases hk with hk | hk
  ·obtain ⟨y, hy, e2⟩ := hb k hk
   have := h.inj q y (hfc q hq).1 (hD y hy) (e.trans e2.symm)
   exact absurd (this ▸ hy) (hfc q hq).2
  ·obtain ⟨u, v, rfl⟩ := List.append_of_mem hk
   cases u with
   | nil => exact h3
   | cons a u =>
    exfalso
    obtain ⟨l1, l2⟩ := lead_append.1 h3
    obtain ⟨p, hp, e3⟩ := lead_last l1 (by simp)
    obtain ⟨q2, hq2, e4⟩ := lead_last l2 (by simp)
    have := h.inj p q2 (hfc p (List.mem_append_left _ hp)).1 (hfc q2 (List.mem_append_right _ hq2)).1 (e3.trans e4.symm)
    rw [List.nodup_append] at hn
    exact hn.2.2 p hp q2 hq2 this
theorem goFace_spec (h : Steps f st) {D : List Nat} {hd : Nat} (hD : ∀ x ∈ D, x < st.length) (hb : ∀ x ∈ D, ∃ y ∈ D, f y = x) (hhd : hd ∉ D) :
  ∀ (n : Nat) (T : List Bool) (fc : List Nat) (k : Nat), T.length = st.length → left T ≤ n → k < st.length → fc.Nodup → (∀ x ∈ fc, x < st.length ∧ x ∉ D) → ((fc = [] ∧ k = hd) ∨ (fc ≠ [] ∧ fc.headD 0 = hd ∧ Lead f fc k)) → (∀ i, i < st.length → (gb T i = true ↔ i ∈ D ∨ i ∈ fc)) →
   ∃ T' fc', goFace st n T (zN fc) (k : Int) = (T', zN fc') ∧ Ring f fc' ∧ fc'.headD 0 = hd ∧ fc'.Nodup ∧ (∀ x ∈ fc', x < st.length ∧ x ∉ D) ∧ T'.length = st.length ∧ ∀ i, i < st.length → (gb T' i = true ↔ i ∈ D ∨ i ∈ fc')
 | 0, T, fc, k, hT, hl, hk, hn, hfc, hc, hg => by
  have h1 := left_zero (S := T) (by omega) (i := k) (by omega)
  obtain ⟨c1, c2, c3⟩ := h.close hD hb hhd hn hfc hc ((hg k hk).1 h1)
  exact ⟨T, fc, rfl, c3, c2, hn, hfc, hT, hg⟩
 | n + 1, T, fc, k, hT, hl, hk, hn, hfc, hc, hg => by
  cases hgk : gb T k with
  | true =>
   obtain ⟨c1, c2, c3⟩ := h.close hD hb hhd hn hfc hc ((hg k hk).1 hgk)
   refine ⟨T, fc, ?_, c3, c2, hn, hfc, hT, hg⟩
   unfold goFace
   rw [if_pos (by rw [Int.toNat_natCast]; exact hgk)]
  | false =>
   have hno : ¬ (k ∈ D ∨ k ∈ fc) := fun e => by rw [(hg k hk).2 e] at hgk; cases hgk
   have hls := left_set T k (by omega) hgk
   obtain ⟨T', fc', e1, e2⟩ := goFace_spec h hD hb hhd n (T.set k true) (fc ++ [k]) (f k) (by rw [List.length_set]; exact hT) (by omega) (h.inn k hk)
    (by
     rw [List.nodup_append]
     refine ⟨hn, by simp, fun a ha b hb e => ?_⟩
     rw [List.mem_singleton] at hb
     exact hno (.inr (by rw [← hb, ← e]; exact ha)))
    (fun x hx => by
     rcases List.mem_append.1 hx with hx | hx
     ·exact hfc x hx
     ·rw [List.mem_singleton] at hx
      rw [hx]
      exact ⟨hk, fun e => hno (.inl e)⟩)
    (.inr ⟨by simp, by
     rcases hc with ⟨rfl, rfl⟩ | ⟨c1, c2, c3⟩
     ·rfl
     ·cases fc with
      | nil => exact absurd rfl c1
      | cons a t => exact c2, by
     rcases hc with ⟨rfl, rfl⟩ | ⟨c1, c2, c3⟩
     ·show Lead f [k] (f k)
      unfold Lead; simp
     ·cases fc with
      | nil => exact absurd rfl c1
      | cons a t => exact lead_append.2 ⟨c3, by unfold Lead; simp⟩⟩)
    (fun i hi => by
     rw [gb_set, List.mem_append, List.mem_singleton]
     by_cases e : k = i
     ·rw [if_pos ⟨e, by omega⟩]
      simp [e]
     ·rw [if_neg (fun q => e q.1), hg i hi]
      simp [Ne.symm e])
   refine ⟨T', fc', ?_, e2⟩
   unfold goFace
   rw [if_neg (by rw [Int.toNat_natCast, hgk]; simp), Int.toNat_natCast, zN_snoc, h.at_ k hk]
   exact e1
theorem gb_none (n j : Nat) : gb (List.replicate n false) j = false := by
 unfold gb
 by_cases h : j < n <;> simp [List.getD_eq_getElem?_getD, List.getElem?_replicate, h]
structure Faced (f : Nat → Nat) (M h : Nat) (S : List Bool) (out : List (List Nat)) : Prop where
 len : S.length = M
 dec : Dec f out
 seen : ∀ i, i < M → (gb S i = true ↔ i ∈ out.flatten)
 inn : ∀ x ∈ out.flatten, x < M
 all : ∀ i, i < h → i ∈ out.flatten
 rise : out.Pairwise fun a b => a.headD 0 < b.headD 0
 head : ∀ l ∈ out, l.headD 0 < h ∧ ∀ x ∈ l, l.headD 0 ≤ x
theorem facesTo_spec (h : Steps f st) : ∀ m, m ≤ st.length → ∃ out, (facesTo st st.length m).2 = out.map zN ∧ Faced f st.length m (facesTo st st.length m).1 out
 | 0, _ => ⟨[], rfl, by simp [facesTo], ⟨by simp, by simp⟩, fun i hi => by simp [facesTo, gb_none], by simp, by omega, by simp, by simp⟩
 | m + 1, hm => by
  obtain ⟨out, e, F⟩ := facesTo_spec h m (by omega)
  unfold facesTo
  by_cases c : gb (facesTo st st.length m).1 m = true
  ·rw [if_pos c]
   refine ⟨out, e, F.len, F.dec, F.seen, F.inn, fun i hi => ?_, F.rise, fun l hl => ⟨by have := (F.head l hl).1; omega, (F.head l hl).2⟩⟩
   rcases Nat.lt_succ_iff_lt_or_eq.1 hi with q | rfl
   ·exact F.all i q
   ·exact (F.seen i (by omega)).1 c
  ·rw [if_neg c]
   have hmD : m ∉ out.flatten := fun q => c ((F.seen m (by omega)).2 q)
   obtain ⟨T', fc, e1, e2, e3, e4, e5, e6, e7⟩ := goFace_spec h (D := out.flatten) (hd := m) F.inn (fun x hx => F.dec.back hx) hmD st.length (facesTo st st.length m).1 [] m F.len (by have := left_le (facesTo st st.length m).1; have := F.len; omega) (by omega) (by simp) (by simp) (.inl ⟨rfl, rfl⟩) (fun i hi => by rw [F.seen i hi]; simp)
   have e1' : goFace st st.length (facesTo st st.length m).1 [] (m : Int) = (T', zN fc) := e1
   rw [e1']
   have hfl : (out ++ [fc]).flatten = out.flatten ++ fc := by simp
   refine ⟨out ++ [fc], by rw [e]; simp, e6, ⟨fun l hl => ?_, ?_⟩, fun i hi => ?_, fun x hx => ?_, fun i hi => ?_, ?_, fun l hl => ?_⟩
   ·rcases List.mem_append.1 hl with hl | hl
    ·exact F.dec.ring l hl
    ·rw [List.mem_singleton] at hl
     rw [hl]; exact e2
   ·rw [hfl, List.nodup_append]
    exact ⟨F.dec.nodup, e4, fun a ha b hb q => (e5 b hb).2 (by rw [← q]; exact ha)⟩
   ·rw [hfl, List.mem_append]
    exact e7 i hi
   ·rw [hfl, List.mem_append] at hx
    rcases hx with hx | hx
    ·exact F.inn x hx
    ·exact (e5 x hx).1
   ·rw [hfl, List.mem_append]
    rcases Nat.lt_succ_iff_lt_or_eq.1 hi with q | rfl
    ·exact .inl (F.all i q)
    ·right
     rw [← e3]
     cases fc with
     | nil => exact absurd rfl e2.1
     | cons a t => simp
   ·rw [List.pairwise_append]
    refine ⟨F.rise, by simp, fun a ha b hb => ?_⟩
    rw [List.mem_singleton] at hb
    rw [hb, e3]
    exact (F.head a ha).1
   ·rcases List.mem_append.1 hl with hl | hl
    ·exact ⟨by have := (F.head l hl).1; omega, (F.head l hl).2⟩
    ·rw [List.mem_singleton] at hl
     rw [hl, e3]
     refine ⟨by omega, fun x hx => ?_⟩
     have := (e5 x hx).2
     rcases Nat.lt_or_ge x m with q | q
     ·exact absurd (F.all x q) this
     ·exact q
structure Faces (f : Nat → Nat) (M : Nat) (F : List (List Nat)) : Prop where
 dec : Dec f F
 perm : F.flatten.Perm (List.range M)
 rise : F.Pairwise fun a b => a.headD 0 < b.headD 0
 head : ∀ l ∈ F, ∀ x ∈ l, l.headD 0 ≤ x
theorem facesL_spec (h : Steps f st) : ∃ F, facesL st = F.map zN ∧ Faces f st.length F := by
 obtain ⟨out, e, F⟩ := facesTo_spec h st.length (Nat.le_refl _)
 refine ⟨out, e, F.dec, ?_, F.rise, fun l hl => (F.head l hl).2⟩
 exact perm_of_same F.dec.nodup List.nodup_range (fun x => ⟨fun hx => by rw [List.mem_range]; exact F.inn x hx, fun hx => F.all x (by rw [List.mem_range] at hx; exact hx)⟩)
theorem Faces.unique {M : Nat} {F G : List (List Nat)} (hF : Faces f M F) (hG : Faces f M G) {α : Type} (φ : List Nat → α) (hφ : ∀ l m, l.Perm m → φ l = φ m) : (F.map φ).Perm (G.map φ) :=
 Dec.unique φ hφ F G hF.dec hG.dec (hF.perm.trans hG.perm.symm)
end
end Face
namespace Rot
open Mem
def froms (es : List (Int × Int)) : List Int := es.flatMap fun e => [e.1, e.2]
theorem froms_length (es : List (Int × Int)) : (froms es).length = 2 * es.length := by
 induction es with
 | nil => rfl
 | cons e es ih => unfold froms at ih ⊢; rw [List.flatMap_cons, List.length_append, ih]; simp; omega
theorem froms_take {es : List (Int × Int)} {i : Nat} (h : i < es.length) : froms (es.take (i + 1)) = froms (es.take i) ++ [(pe es i).1, (pe es i).2] := by
 unfold froms
 rw [List.take_succ_eq_append_getElem h, List.flatMap_append]
 simp [pe, List.getD_eq_getElem?_getD, h]
theorem cell_two_new (w : World) (x y : Value) (t : TypeId) : ∀ j u, [x, y][j]? = some u → (w.alloc (.cells #[x, y] t)).cell? ((⟨w.heap.size, 0, none⟩ : Addr).add j) = some u := by
 intro j u hj
 rw [add_plain]
 exact heap_cell (heap_last w _) (by simpa using hj)
theorem begins_calls (n : Int) (A : Option Addr) (c : Nat) (es : List (Int × Int)) (w : World) (he : Pairs w A es) (hl : es.length ≤ 4194304) :
  Calls Try.prog 57 #[.agg #[.int .i64 n, .slice A es.length c]] w fun e w' => ∃ v, e = .returned v ∧ Kd.R (Kd.int .i64) 3 w' w.heap.size (fun _ => True) v (froms es) ∧ Below w.heap.size w w' := by
 have HE := Aside0.mk he
 have HB := Aside0.mk ((Below.refl w.heap.size w).alloc (Nat.le_refl _) (.cells #[.int .i64 n, .slice A es.length c] 24 (0, 0)))
 have HX := Aside0.mk (heap_last w (.cells #[.int .i64 n, .slice A es.length c] 24 (0, 0)))
 clear he
 have mk : ∀ W : World, (Instr.makeSlice 27 (.int .i64 0) (.int .i64 (2 * (es.length : Int)))).run Try.prog W = .ok (.slice (some ⟨W.heap.size, 0, none⟩) 0 (2 * es.length)) (W.alloc (.cells (madeCells #[.int .i64 0] (2 * es.length)) 3)) := by
  intro W
  obtain ⟨i0, hi, hz0, hz1, hz2⟩ := info_parts info_int
  have h := run_make (P := Try.prog) W 27 3 i0 (.int .i64 0) Try.underlying27 hi hz0 .i64 .i64 0 (2 * (es.length : Int)) (by omega) (by omega) (by rw [hz2]; omega) (by omega)
  rw [hz1, Nat.mul_one, show (2 * (es.length : Int)).toNat = 2 * es.length by omega] at h
  exact h
 have x1 : (w.alloc (.cells #[.int .i64 n, .slice A es.length c] 24 (0, 0))).cell? ⟨w.heap.size, 1, none⟩ = some (.slice A es.length c) := heap_cell HX.out rfl
 go_enter Try.func57, Try.ntmps57
 go_wp2_with fail
 clear mk
 have HB2 : Aside0 (Below w.heap.size w ((w.alloc (.cells #[.int .i64 n, .slice A es.length c] 24 (0, 0))).alloc (.cells (madeCells #[.int .i64 0] (2 * es.length)) 3))) := ⟨HB.out.alloc HB.out.size _⟩
 have HO : Aside0 (((w.alloc (.cells #[.int .i64 n, .slice A es.length c] 24 (0, 0))).alloc (.cells (madeCells #[.int .i64 0] (2 * es.length)) 3)).ownsRow w.heap.size 3 1 (.slice (some ⟨w.heap.size + 1, 0, none⟩) 0 (2 * es.length)) 0 []) := ⟨by
  have h := World.ownsRow_made (base := w.heap.size) (size := 1) (e := 3) (w.alloc (.cells #[.int .i64 n, .slice A es.length c] 24 (0, 0))) (madeCells #[.int .i64 0] (2 * es.length)) (2 * es.length) (by simp) (by unfold maxLen; omega) (by simp [size_madeCells])
  simpa using h⟩
 generalize (w.alloc (.cells #[.int .i64 n, .slice A es.length c] 24 (0, 0))).alloc (.cells (madeCells #[.int .i64 0] (2 * es.length)) 3) = w2 at HB2 HO ⊢
 clear HB HX x1
 obtain ⟨i0, hi0, hz0, hz1, hz2⟩ := info_parts info_int
 go_loopw [3, 14] (fun s y wr => ∃ (i : Nat) (B : Option Addr) (cc : Nat), s = .slice B (2 * i) cc ∧ y = .int .i64 (i : Int) ∧ i ≤ es.length ∧ Aside0 (wr.ownsRow w.heap.size 3 1 (.slice B (2 * i) cc) (froms (es.take i)).length (encs (Value.int .i64) (froms (es.take i)))) ∧ Aside0 (Below w.heap.size w wr)) (fun _ y _ => es.length - (intOf y).toNat)
 case atStart => exact ⟨0, _, _, rfl, rfl, by omega, HO, HB2⟩
 case round =>
  clear HO HB2
  obtain ⟨i, B, cc, rfl, rfl, hi, HO, HB⟩ := hrel
  by_cases hlt : i < es.length
  ·obtain ⟨ad, eA, h1, h2⟩ := (HE.out.below HB.out) i hlt
   subst eA
   obtain ⟨x, hx⟩ : ∃ x, x = (pe es i).1 := ⟨_, rfl⟩
   obtain ⟨y, hy⟩ : ∃ y, y = (pe es i).2 := ⟨_, rfl⟩
   have HF := Aside0.mk (froms_take hlt)
   rw [← hx] at h1 HF
   rw [← hy] at h2 HF
   clear hx hy
   have hfl := froms_length (es.take i)
   rw [List.length_take, Nat.min_eq_left hi] at hfl
   have HFL := Aside0.mk hfl
   clear hfl
   rw [HFL.out] at HO
   have HO2 := Aside0.mk ((HO.out.alloc (.cells #[.int .i64 x, .int .i64 y] 41)).alloc (.cells #[.int .i64 x, .int .i64 y] 3))
   have HB2 := Aside0.mk ((HB.out.alloc HB.out.size (.cells #[.int .i64 x, .int .i64 y] 41)).alloc (by have := HB.out.size; simp; omega) (.cells #[.int .i64 x, .int .i64 y] 3))
   have hsz := HB.out.size
   go_wp2_with (at_builtin; go_loud (refine wpList_append_own_at _ rfl _ _ 27 rfl w.heap.size 3 i0 (.int .i64 0) 1 8 Try.underlying27 hi0 hz0 hz1 hz2 rfl (by decide) (.slice B (2 * i) cc) (2 * i) _ rfl HO2.out ⟨wr.heap.size + 1, 0, none⟩ 2 2 [.int .i64 x, .int .i64 y] rfl rfl ?c1 ?c2 ?c3 ?c4 ?c5 ?_))
   case c1 =>
    have := cell_two_new (wr.alloc (.cells #[.int .i64 x, .int .i64 y] 41)) (.int .i64 x) (.int .i64 y) 3
    simpa using this
   case c2 => intro u hu; simp at hu; rcases hu with rfl | rfl <;> rfl
   case c3 => unfold maxLen; omega
   case c4 => omega
   case c5 => simp; omega
   intro v' w3 hown hgrow _ hat
   obtain ⟨B', cc', rfl⟩ := own_slice hown
   rw [show 2 * i + 2 = 2 * (i + 1) by omega] at hown ⊢
   have HB3 := Aside0.mk (HB2.out.grown hgrow (by simp; omega) (fun k hk => (HO2.out.lt k hk).1))
   have HO3 : Aside0 (w3.ownsRow w.heap.size 3 1 (.slice B' (2 * (i + 1)) cc') (froms (es.take (i + 1))).length (encs (Value.int .i64) (froms (es.take (i + 1))))) := ⟨by
    have e : 2 * (i + 1) = (froms (es.take i) ++ [x, y]).length := by rw [List.length_append, HFL.out]; rfl
    rw [HF.out, ← e]
    simpa [encs] using hown⟩
   clear hown hgrow hat HO HO2 HB HB2 h1 h2
   go_wp2_with fail
   go_roundw
   case rel => exact ⟨i + 1, B', cc', rfl, by go_num, by omega, HO3, HB3⟩
   case measure => simp [intOf]; omega
  ·obtain rfl : i = es.length := by omega
   go_wp2_with fail
   go_ret
   rw [List.take_length] at HO
   exact ⟨_, rfl, Kd.R_of_own HO.out (fun _ _ => trivial), HB.out⟩
end Rot
end Go.Proofs.Ytaepieadbfndnaa
namespace Go.Proofs.Ytaepieadbfndnaa.Rot
open Go.RowKit Go.Proofs.YtaepieadbfndnaaW.PrintWords Go.Proofs.Ytaepieadbfndnaa.Mem
def leaves (fr : List Int) (v : Int) (h : Int) : Bool := decide (h ≥ 0) && (decide (h < (fr.length : Int)) && (gi fr h.toNat == v))
def elems (fr : List Int) (v : Int) : List Int → List Bool → Except Int (List Bool)
 | [], S => .ok S
 | h :: t, S => if leaves fr v h = true then (if gb S h.toNat = true then .error 112 else elems fr v t (S.set h.toNat true)) else .error 111
def rows (fr ds : List Int) : Nat → List (List Int) → List Bool → Int × Int
 | _, [], _ => (0, 0)
 | v, row :: t, S => match elems fr v row S with
  | .error e => (v, e)
  | .ok S' => if (row.length : Int) = gi ds v then rows fr ds (v + 1) t S' else (v, 113)
def after (fr ds : List Int) (v : Nat) (row : List Int) (t : List (List Int)) : Except Int (List Bool) → Int × Int
 | .error e => (v, e)
 | .ok S' => if (row.length : Int) = gi ds v then rows fr ds (v + 1) t S' else (v, 113)
theorem after_ok (fr ds : List Int) (v : Nat) (row : List Int) (t : List (List Int)) (S' : List Bool) : after fr ds v row t (.ok S') = if (row.length : Int) = gi ds v then rows fr ds (v + 1) t S' else ((v : Int), 113) := rfl
theorem rows_cons (fr ds : List Int) (v : Nat) (row : List Int) (t : List (List Int)) (S : List Bool) : rows fr ds v (row :: t) S = after fr ds v row t (elems fr v row S) := by
 rw [rows]
 cases elems fr v row S <;> rfl
theorem elems_cons_no {fr : List Int} {v h : Int} {t : List Int} {S : List Bool} (hl : leaves fr v h = false) : elems fr v (h :: t) S = .error 111 := by simp [elems, hl]
theorem elems_cons_twice {fr : List Int} {v h : Int} {t : List Int} {S : List Bool} (hl : leaves fr v h = true) (hs : gb S h.toNat = true) : elems fr v (h :: t) S = .error 112 := by simp [elems, hl, hs]
theorem elems_cons {fr : List Int} {v h : Int} {t : List Int} {S : List Bool} (hl : leaves fr v h = true) (hs : gb S h.toNat = false) : elems fr v (h :: t) S = elems fr v t (S.set h.toNat true) := by simp [elems, hl, hs]
theorem elems_err (fr : List Int) (v : Int) : ∀ (l : List Int) (S : List Bool) (e : Int), elems fr v l S = .error e → e = 111 ∨ e = 112
 | [], S, e, h => by cases h
 | x :: l, S, e, h => by
  unfold elems at h
  split at h
  ·split at h
   ·injection h with h; exact .inr h.symm
   ·exact elems_err fr v l _ e h
  ·injection h with h; exact .inl h.symm
theorem rows_zero (fr ds : List Int) : ∀ (r : List (List Int)) (v : Nat) (S : List Bool), rows fr ds v r S = (0, 0) ∨ (rows fr ds v r S).2 ≠ 0
 | [], v, S => .inl rfl
 | row :: r, v, S => by
  rw [rows_cons]
  cases h : elems fr v row S with
  | error e =>
   right
   have := elems_err fr v row S e h
   show e ≠ 0
   omega
  | ok S' =>
   rw [after_ok]
   split
   ·exact rows_zero fr ds r (v + 1) S'
   ·right; show (113 : Int) ≠ 0; decide
def faultOf (n : Nat) (es : List (Int × Int)) (ds : List Int) (r : List (List Int)) : Int × Int :=
 if r.length = n then rows (froms es) ds 0 r (List.replicate (2 * es.length) false) else (0, 110)
theorem drop_row {r : List (List Int)} {v : Nat} (h : v < r.length) : r.drop v = gl r v :: r.drop (v + 1) := by
 rw [List.drop_eq_getElem_cons h]
 congr 1
 simp [gl, List.getD_eq_getElem?_getD, h]
theorem drop_int {r : List Int} {v : Nat} (h : v < r.length) : r.drop v = gi r v :: r.drop (v + 1) := by
 rw [List.drop_eq_getElem_cons h]
 congr 1
 simp [gi, List.getD_eq_getElem?_getD, h]
end Go.Proofs.Ytaepieadbfndnaa.Rot
namespace Go.Proofs.Ytaepieadbfndnaa.Rot
open Go.RowKit Go.Proofs.YtaepieadbfndnaaW.PrintWords Go.Proofs.Ytaepieadbfndnaa.Mem
theorem nodup_subset {α : Type} [DecidableEq α] : ∀ (l m : List α), l.Nodup → (∀ x ∈ l, x ∈ m) → l.length ≤ m.length
 | [], m, _, _ => Nat.zero_le _
 | a :: l, m, hn, hs => by
  rw [List.nodup_cons] at hn
  have ha : a ∈ m := hs a (List.mem_cons_self ..)
  have h := nodup_subset l (m.erase a) hn.2 (fun x hx => by
   have hx2 := hs x (List.mem_cons_of_mem _ hx)
   exact (List.mem_erase_of_ne (fun e => hn.1 (by rw [← e]; exact hx))).2 hx2)
  rw [List.length_erase_of_mem ha] at h
  have := List.length_pos_of_mem ha
  simp; omega
theorem nodup_full {α : Type} [DecidableEq α] {l m : List α} (hn : l.Nodup) (hs : ∀ x ∈ l, x ∈ m) (hl : m.length ≤ l.length) {x : α} (hx : x ∈ m) : x ∈ l := by
 refine Decidable.byContradiction fun h => ?_
 have := nodup_subset (x :: l) m (List.nodup_cons.2 ⟨h, hn⟩) (fun y hy => by
  rcases List.mem_cons.1 hy with rfl | hy
  ·exact hx
  ·exact hs y hy)
 simp at this; omega
theorem leaves_iff {fr : List Int} {v h : Int} : leaves fr v h = true ↔ 0 ≤ h ∧ h < (fr.length : Int) ∧ gi fr h.toNat = v := by
 unfold leaves
 rw [Bool.and_eq_true, Bool.and_eq_true, decide_eq_true_eq, decide_eq_true_eq, beq_iff_eq]
theorem elems_ok {fr : List Int} {v : Int} : ∀ (row : List Int) (S S' : List Bool), S.length = fr.length → elems fr v row S = .ok S' →
  (∀ h ∈ row, leaves fr v h = true) ∧ row.Nodup ∧ (∀ h ∈ row, gb S h.toNat = false) ∧ S'.length = fr.length ∧ ∀ j : Nat, gb S' j = (gb S j || decide ((j : Int) ∈ row))
 | [], S, S', hl, h => by
  injection h with h
  subst h
  exact ⟨by simp, List.nodup_nil, by simp, hl, fun j => by simp⟩
 | h :: t, S, S', hl, he => by
  cases hlv : leaves fr v h with
  | false => rw [elems_cons_no hlv] at he; cases he
  | true =>
   cases hs : gb S h.toNat with
   | true => rw [elems_cons_twice hlv hs] at he; cases he
   | false =>
    rw [elems_cons hlv hs] at he
    obtain ⟨h1, h2, h3, h4, h5⟩ := elems_ok t _ S' (by rw [List.length_set]; exact hl) he
    obtain ⟨l1, l2, l3⟩ := leaves_iff.1 hlv
    have hne : ∀ x ∈ t, x ≠ h ∧ gb S x.toNat = false := by
     intro x hx
     have := h3 x hx
     rw [gb_set] at this
     by_cases e : h.toNat = x.toNat ∧ x.toNat < S.length
     ·rw [if_pos e] at this; cases this
     ·rw [if_neg e] at this
      refine ⟨fun e2 => e ⟨by rw [e2], by rw [e2, hl]; omega⟩, this⟩
    refine ⟨?_, ?_, ?_, h4, fun j => ?_⟩
    ·intro x hx
     rcases List.mem_cons.1 hx with rfl | hx
     ·exact hlv
     ·exact h1 x hx
    ·rw [List.nodup_cons]
     exact ⟨fun hx => (hne h hx).1 rfl, h2⟩
    ·intro x hx
     rcases List.mem_cons.1 hx with rfl | hx
     ·exact hs
     ·exact (hne x hx).2
    ·rw [h5, gb_set]
     by_cases e : h.toNat = j
     ·have e2 : h = (j : Int) := by omega
      rw [if_pos ⟨e, by rw [hl]; omega⟩]
      simp [e2]
     ·have e2 : ¬ (j : Int) = h := fun x => e (by omega)
      rw [if_neg (fun x => e x.1)]
      simp [e2]
theorem elems_mk {fr : List Int} {v : Int} : ∀ (row : List Int) (S : List Bool), S.length = fr.length → (∀ h ∈ row, leaves fr v h = true) → row.Nodup → (∀ h ∈ row, gb S h.toNat = false) → ∃ S', elems fr v row S = .ok S'
 | [], S, _, _, _, _ => ⟨S, rfl⟩
 | h :: t, S, hl, h1, h2, h3 => by
  rw [elems_cons (h1 h (List.mem_cons_self ..)) (h3 h (List.mem_cons_self ..))]
  rw [List.nodup_cons] at h2
  refine elems_mk t _ (by rw [List.length_set]; exact hl) (fun x hx => h1 x (List.mem_cons_of_mem _ hx)) h2.2 (fun x hx => ?_)
  rw [gb_set]
  obtain ⟨l1, _, _⟩ := leaves_iff.1 (h1 h (List.mem_cons_self ..))
  obtain ⟨m1, _, _⟩ := leaves_iff.1 (h1 x (List.mem_cons_of_mem _ hx))
  rw [if_neg]
  ·exact h3 x (List.mem_cons_of_mem _ hx)
  ·rintro ⟨e, _⟩
   exact h2.1 (by rw [show h = x by omega]; exact hx)
def RowOk (fr ds : List Int) (v : Nat) (row : List Int) : Prop := (∀ h ∈ row, leaves fr v h = true) ∧ row.Nodup ∧ (row.length : Int) = gi ds v
theorem rows_ok {fr ds : List Int} {r : List (List Int)} (d : Nat) : ∀ (v : Nat) (S : List Bool), v + d = r.length → S.length = fr.length → (∀ j : Nat, gb S j = true → ∃ u, u < v ∧ leaves fr u (j : Int) = true) →
  (rows fr ds v (r.drop v) S = (0, 0) ↔ ∀ u, v ≤ u → u < r.length → RowOk fr ds u (gl r u)) := by
 induction d with
 | zero =>
  intro v S hv hl hm
  rw [List.drop_of_length_le (by omega)]
  exact ⟨fun _ u h1 h2 => by omega, fun _ => rfl⟩
 | succ d ih =>
  intro v S hv hl hm
  have hlt : v < r.length := by omega
  rw [drop_row hlt, rows_cons]
  constructor
  ·intro h
   cases he : elems fr v (gl r v) S with
   | error e =>
    rw [he] at h
    have h2 : ((v : Int), e) = (0, 0) := h
    have := elems_err fr v _ S e he
    simp only [Prod.mk.injEq] at h2
    omega
   | ok S' =>
    rw [he, after_ok] at h
    obtain ⟨e1, e2, e3, e4, e5⟩ := elems_ok _ S S' hl he
    by_cases hd : ((gl r v).length : Int) = gi ds v
    ·rw [if_pos hd] at h
     have h3 := (ih (v + 1) S' (by omega) e4 (fun j hj => ?_)).1 h
     ·intro u hu1 hu2
      rcases Nat.eq_or_lt_of_le hu1 with rfl | hu
      ·exact ⟨e1, e2, hd⟩
      ·exact h3 u hu hu2
     ·rw [e5, Bool.or_eq_true, decide_eq_true_eq] at hj
      rcases hj with hj | hj
      ·obtain ⟨u, h1, h2⟩ := hm j hj
       exact ⟨u, by omega, h2⟩
      ·exact ⟨v, by omega, e1 _ hj⟩
    ·rw [if_neg hd] at h
     simp only [Prod.mk.injEq] at h
     omega
  ·intro h
   obtain ⟨h1, h2, h3⟩ := h v (Nat.le_refl _) hlt
   obtain ⟨S', he⟩ := elems_mk (gl r v) S hl h1 h2 (fun x hx => by
    cases hb : gb S x.toNat with
    | false => rfl
    | true =>
     obtain ⟨u, hu, hlu⟩ := hm _ hb
     obtain ⟨a1, a2, a3⟩ := leaves_iff.1 (h1 x hx)
     obtain ⟨b1, b2, b3⟩ := leaves_iff.1 hlu
     rw [Int.toNat_natCast] at b3
     omega)
   obtain ⟨e1, e2, e3, e4, e5⟩ := elems_ok _ S S' hl he
   rw [he, after_ok, if_pos h3]
   refine (ih (v + 1) S' (by omega) e4 (fun j hj => ?_)).2 (fun u hu1 hu2 => h u (by omega) hu2)
   rw [e5, Bool.or_eq_true, decide_eq_true_eq] at hj
   rcases hj with hj | hj
   ·obtain ⟨u, h1, h2⟩ := hm j hj
    exact ⟨u, by omega, h2⟩
   ·exact ⟨v, by omega, e1 _ hj⟩
theorem gb_none (n j : Nat) : gb (List.replicate n false) j = false := by
 unfold gb
 by_cases h : j < n <;> simp [List.getD_eq_getElem?_getD, List.getElem?_replicate, h]
theorem rows_none {fr ds : List Int} {r : List (List Int)} : rows fr ds 0 r (List.replicate fr.length false) = (0, 0) ↔ ∀ u, u < r.length → RowOk fr ds u (gl r u) := by
 have h := rows_ok (fr := fr) (ds := ds) (r := r) r.length 0 (List.replicate fr.length false) (by omega) (by simp) (fun j hj => by rw [gb_none] at hj; cases hj)
 rw [List.drop_zero] at h
 exact h.trans ⟨fun h u hu => h u (Nat.zero_le _) hu, fun h u _ hu => h u hu⟩
def leaving (fr : List Int) (v : Nat) : List Int := ((List.range fr.length).filter fun j => gi fr j == (v : Int)).map fun (j : Nat) => (j : Int)
theorem mem_leaving {fr : List Int} {v : Nat} {h : Int} : h ∈ leaving fr v ↔ leaves fr v h = true := by
 unfold leaving
 rw [leaves_iff, List.mem_map]
 constructor
 ·rintro ⟨j, hj, rfl⟩
  rw [List.mem_filter, List.mem_range, beq_iff_eq] at hj
  exact ⟨by omega, by omega, by rw [Int.toNat_natCast]; exact hj.2⟩
 ·rintro ⟨h1, h2, h3⟩
  exact ⟨h.toNat, by rw [List.mem_filter, List.mem_range, beq_iff_eq]; exact ⟨by omega, h3⟩, by omega⟩
theorem leaving_nodup (fr : List Int) (v : Nat) : (leaving fr v).Nodup := by
 unfold leaving
 refine List.pairwise_map.2 ((List.Pairwise.filter _ List.nodup_range).imp fun {a b} h e => h (by omega))
structure IsRot (fr : List Int) (n : Nat) (r : List (List Int)) : Prop where
 len : r.length = n
 nodup : ∀ v, v < n → (gl r v).Nodup
 mem : ∀ v, v < n → ∀ h, h ∈ gl r v ↔ leaves fr v h = true
theorem isRot_of {fr ds : List Int} {n : Nat} {r : List (List Int)} (hl : r.length = n) (hd : ∀ v, v < n → gi ds v = ((leaving fr v).length : Int)) : rows fr ds 0 r (List.replicate fr.length false) = (0, 0) ↔ IsRot fr n r := by
 rw [rows_none]
 constructor
 ·intro h
  refine ⟨hl, fun v hv => (h v (by omega)).2.1, fun v hv x => ⟨(h v (by omega)).1 x, fun hx => ?_⟩⟩
  obtain ⟨h1, h2, h3⟩ := h v (by omega)
  rw [hd v hv] at h3
  exact nodup_full h2 (fun y hy => mem_leaving.2 (h1 y hy)) (by omega) (mem_leaving.2 hx)
 ·intro h v hv
  have hv2 : v < n := by omega
  refine ⟨fun x hx => (h.mem v hv2 x).1 hx, h.nodup v hv2, ?_⟩
  rw [hd v hv2]
  have h1 := nodup_subset (gl r v) (leaving fr v) (h.nodup v hv2) (fun x hx => mem_leaving.2 ((h.mem v hv2 x).1 hx))
  have h2 := nodup_subset (leaving fr v) (gl r v) (leaving_nodup fr v) (fun x hx => (h.mem v hv2 x).2 (mem_leaving.1 hx))
  omega
end Go.Proofs.Ytaepieadbfndnaa.Rot
namespace Go.Proofs.YtaepieadbfndnaaW.PrintLast
section
variable {P : Program} {ops : Array Oper} {Q : Exit → Act → World → Prop} {md : Region.Mode} {S : World → Prop} {ds : List Nat}
def bm9 (n k : Nat) : Array Bool := ((List.range n).map k.testBit).toArray
theorem pu9 (i N : Nat) (l' : Array Bool) {oi : Oper} {v : Value} {fuel : Nat} {l : Array Bool} {a a' : Act} {w : World} (h : wpAnyLast P md ops Q S ds fuel l' a' w)
  (hi : ops[i]? = some oi := by rfl) (hN : oi.dst = some N := by rfl) (hc : anyB md ops l l' i = true := by kernel_rfl) (hQ : ∀ c a w, Q (.panic c) (a.put oi.dst v) w → Q (.panic c) a w := by exact fun _ _ _ h => h)
  (hy : (Region.wanted oi (yielded ops a.tmps) = true ∧ ∀ w, (execOp a.eval oi).run P w = .ok (.value v) w) ∨ (Region.wanted oi (yielded ops a.tmps) = false ∧ v = undef) := by exact Or.inl ⟨by rfl, by intro w'; go_simp; with_reducible rfl⟩)
  (ha : a.put (some N) v = a' := by simp only [Act.put, List.setIfInBounds_toArray, List.set_cons_zero, List.set_cons_succ, i64_w, i32_w]; rfl) : wpAnyLast P md ops Q S ds (fuel + 1) l a w := pure_ l' hi hN hc hQ hy ha h
theorem tk19 (i N : Nat) (l' : Array Bool) {oi : Oper} {v : Value} {fuel : Nat} {l : Array Bool} {a a' : Act} {w : World} (hS : S w) (h : wpAnyLast P md ops Q S ds fuel l' a' w)
  (hi : ops[i]? = some oi := by rfl) (hN : oi.dst = some N := by rfl) (hc : takeB md ops ds l l' i = true := by kernel_rfl) (hQ : ∀ c a w, Q (.panic c) (a.put oi.dst v) w → Q (.panic c) a w := by exact fun _ _ _ h => h)
  (hw : Region.wanted oi (yielded ops a.tmps) = true := by rfl) (hy : ∀ w, S w → (execOp a.eval oi).run P w = .ok (.value v) w := by (intro w' s0; go_simp; with_reducible rfl)) (ha : a.put (some N) v = a' := by simp only [Act.put, List.setIfInBounds_toArray, List.set_cons_zero, List.set_cons_succ, i64_w, i32_w]; rfl) : wpAnyLast P md ops Q S ds (fuel + 1) l a w := take_ l' hi hN hc hQ (Or.inl ⟨hw, hy⟩) hS ha h
theorem tk29 (i N : Nat) (l' : Array Bool) {oi : Oper} {v : Value} {fuel : Nat} {l : Array Bool} {a a' : Act} {w : World} (hS : S w) (h : wpAnyLast P md ops Q S ds fuel l' a' w)
  (hi : ops[i]? = some oi := by rfl) (hN : oi.dst = some N := by rfl) (hc : takeB md ops ds l l' i = true := by kernel_rfl) (hQ : ∀ c a w, Q (.panic c) (a.put oi.dst v) w → Q (.panic c) a w := by exact fun _ _ _ h => h)
  (hw : Region.wanted oi (yielded ops a.tmps) = true := by rfl) (hy : ∀ w, S w → (execOp a.eval oi).run P w = .ok (.value v) w := by (rintro w' ⟨s0, s1⟩; go_simp; with_reducible rfl)) (ha : a.put (some N) v = a' := by simp only [Act.put, List.setIfInBounds_toArray, List.set_cons_zero, List.set_cons_succ, i64_w, i32_w]; rfl) : wpAnyLast P md ops Q S ds (fuel + 1) l a w := take_ l' hi hN hc hQ (Or.inl ⟨hw, hy⟩) hS ha h
theorem tk39 (i N : Nat) (l' : Array Bool) {oi : Oper} {v : Value} {fuel : Nat} {l : Array Bool} {a a' : Act} {w : World} (hS : S w) (h : wpAnyLast P md ops Q S ds fuel l' a' w)
  (hi : ops[i]? = some oi := by rfl) (hN : oi.dst = some N := by rfl) (hc : takeB md ops ds l l' i = true := by kernel_rfl) (hQ : ∀ c a w, Q (.panic c) (a.put oi.dst v) w → Q (.panic c) a w := by exact fun _ _ _ h => h)
  (hw : Region.wanted oi (yielded ops a.tmps) = true := by rfl) (hy : ∀ w, S w → (execOp a.eval oi).run P w = .ok (.value v) w := by (rintro w' ⟨s0, s1, s2⟩; go_simp; with_reducible rfl)) (ha : a.put (some N) v = a' := by simp only [Act.put, List.setIfInBounds_toArray, List.set_cons_zero, List.set_cons_succ, i64_w, i32_w]; rfl) : wpAnyLast P md ops Q S ds (fuel + 1) l a w := take_ l' hi hN hc hQ (Or.inl ⟨hw, hy⟩) hS ha h
theorem tk49 (i N : Nat) (l' : Array Bool) {oi : Oper} {v : Value} {fuel : Nat} {l : Array Bool} {a a' : Act} {w : World} (hS : S w) (h : wpAnyLast P md ops Q S ds fuel l' a' w)
  (hi : ops[i]? = some oi := by rfl) (hN : oi.dst = some N := by rfl) (hc : takeB md ops ds l l' i = true := by kernel_rfl) (hQ : ∀ c a w, Q (.panic c) (a.put oi.dst v) w → Q (.panic c) a w := by exact fun _ _ _ h => h)
  (hw : Region.wanted oi (yielded ops a.tmps) = true := by rfl) (hy : ∀ w, S w → (execOp a.eval oi).run P w = .ok (.value v) w := by (rintro w' ⟨s0, s1, s2, s3⟩; go_simp; with_reducible rfl)) (ha : a.put (some N) v = a' := by simp only [Act.put, List.setIfInBounds_toArray, List.set_cons_zero, List.set_cons_succ, i64_w, i32_w]; rfl) : wpAnyLast P md ops Q S ds (fuel + 1) l a w := take_ l' hi hN hc hQ (Or.inl ⟨hw, hy⟩) hS ha h
theorem tk59 (i N : Nat) (l' : Array Bool) {oi : Oper} {v : Value} {fuel : Nat} {l : Array Bool} {a a' : Act} {w : World} (hS : S w) (h : wpAnyLast P md ops Q S ds fuel l' a' w)
  (hi : ops[i]? = some oi := by rfl) (hN : oi.dst = some N := by rfl) (hc : takeB md ops ds l l' i = true := by kernel_rfl) (hQ : ∀ c a w, Q (.panic c) (a.put oi.dst v) w → Q (.panic c) a w := by exact fun _ _ _ h => h)
  (hw : Region.wanted oi (yielded ops a.tmps) = true := by rfl) (hy : ∀ w, S w → (execOp a.eval oi).run P w = .ok (.value v) w := by (rintro w' ⟨s0, s1, s2, s3, s4⟩; go_simp; with_reducible rfl)) (ha : a.put (some N) v = a' := by simp only [Act.put, List.setIfInBounds_toArray, List.set_cons_zero, List.set_cons_succ, i64_w, i32_w]; rfl) : wpAnyLast P md ops Q S ds (fuel + 1) l a w := take_ l' hi hN hc hQ (Or.inl ⟨hw, hy⟩) hS ha h
theorem tk79 (i N : Nat) (l' : Array Bool) {oi : Oper} {v : Value} {fuel : Nat} {l : Array Bool} {a a' : Act} {w : World} (hS : S w) (h : wpAnyLast P md ops Q S ds fuel l' a' w)
  (hi : ops[i]? = some oi := by rfl) (hN : oi.dst = some N := by rfl) (hc : takeB md ops ds l l' i = true := by kernel_rfl) (hQ : ∀ c a w, Q (.panic c) (a.put oi.dst v) w → Q (.panic c) a w := by exact fun _ _ _ h => h)
  (hw : Region.wanted oi (yielded ops a.tmps) = true := by rfl) (hy : ∀ w, S w → (execOp a.eval oi).run P w = .ok (.value v) w := by (rintro w' ⟨s0, s1, s2, s3, s4, s5, s6⟩; go_simp; with_reducible rfl)) (ha : a.put (some N) v = a' := by simp only [Act.put, List.setIfInBounds_toArray, List.set_cons_zero, List.set_cons_succ, i64_w, i32_w]; rfl) : wpAnyLast P md ops Q S ds (fuel + 1) l a w := take_ l' hi hN hc hQ (Or.inl ⟨hw, hy⟩) hS ha h
theorem va9 {oi : Oper} {N : Option Tmp} {a : Act} {w w1 : World} {v : Value} {K : Act → World → Prop} (h : K (a.put N v) w1) (hw : Region.wanted oi (yielded ops a.tmps) = true := by rfl) (hN : oi.dst = N := by rfl) (hrun : (execOp a.eval oi).run P w = .ok (.value v) w1 := by (go_simp; constructor <;> rfl)) :
  if Region.wanted oi (yielded ops a.tmps) = true then Oper.wp P oi a w K Q else K (a.put N undef) w := value_ hw hN hrun h
theorem nm9 {fuel : Nat} {l : Array Bool} {a a' : Act} {w : World} (h : wpAnyLast P md ops Q S ds fuel l a' w) (ha : a = a' := by simp only [Act.put, List.setIfInBounds_toArray, List.set_cons_zero, List.set_cons_succ, i64_w, i32_w]; rfl) : wpAnyLast P md ops Q S ds fuel l a w := norm_ ha h
end
end Go.Proofs.YtaepieadbfndnaaW.PrintLast
namespace Go.Proofs.Ytaepieadbfndnaa
open Go.RowKit Go.Proofs.YtaepieadbfndnaaW.PrintWords Go.Proofs.YtaepieadbfndnaaW.PrintLast Go.Proofs.YtaepieadbfndnaaW.PrintMore
namespace Rot
open Mem
theorem Rows2.app {w w1 : World} {B bo : Nat} {vs : List Value} {gs : List (List Int)} (h : Rows2 w B bo vs gs) {k : Nat} (hk : k < gs.length) {v' : Value} {x : Int}
  (hown : w1.ownsRow B 3 1 v' ((gl gs k).length + 1) (encs (Value.int .i64) (gl gs k) ++ [.int .i64 x])) (hg : w.grownBy w1 (va vs k).ownBlock) (hat : v'.ownBlock = (va vs k).ownBlock ∨ ∃ b, v'.ownBlock = some b ∧ w.heap.size ≤ b) :
  Rows2 (w1.setCell ⟨bo, k, none⟩ v') B bo (vs.set k v') (gs.set k (gl gs k ++ [x])) := by
 have hl := h.len
 have hbo := lt_of h.out
 obtain ⟨f, hf⟩ := h.col
 have ho1 : w1.heap[bo]? = some (.cells vs.toArray 27 (0, 0)) := (hg.block bo hbo (fun e => (hf k hk bo e.symm).2 rfl)).trans h.out
 have hnew : ∀ q, v'.ownBlock = some q → q ≠ bo := by
  intro q hq
  rcases hat with e | ⟨b, e, hb⟩
  ·exact (hf k hk q (e ▸ hq)).2
  ·rw [hq] at e; injection e with e; omega
 refine ⟨by simp [h.len], ?_, ?_, ⟨fun b => if v'.ownBlock = some b then k else f b, ?_⟩, by have := h.base; have := hg.size; simp [World.setCell]; omega⟩
 ·rw [heap_set ho1]; simp
 ·intro j hj
  rw [List.length_set] at hj
  rw [gl_set, va_set]
  by_cases hkj : k = j
  ·subst hkj
   rw [if_pos ⟨rfl, by omega⟩, if_pos ⟨rfl, hj⟩]
   have e1 : encs (Value.int .i64) (gl gs k ++ [x]) = encs (Value.int .i64) (gl gs k) ++ [.int .i64 x] := by simp [encs]
   rw [List.length_append, List.length_singleton, e1]
   exact own_move hown (fun q hq => Below.heap_setCell _ _ _ _ (fun e => hnew q hq (by simpa using e)))
  ·rw [if_neg (by simp [hkj]), if_neg (by simp [hkj])]
   refine own_move (h.own j hj) (fun q hq => ?_)
   have hq2 := (h.own j hj).lt q hq
   rw [Below.heap_setCell _ _ _ _ (fun e => (hf j hj q hq).2 (by simpa using e))]
   exact hg.block q hq2.2 (fun e => hkj (by rw [← (hf k hk q e.symm).1, ← (hf j hj q hq).1]))
 ·intro j hj q hq
  rw [List.length_set] at hj
  rw [va_set] at hq
  by_cases hkj : k = j
  ·subst hkj
   rw [if_pos ⟨rfl, by omega⟩] at hq
   exact ⟨by simp [hq], hnew q hq⟩
  ·rw [if_neg (by simp [hkj])] at hq
   refine ⟨?_, (hf j hj q hq).2⟩
   show (if v'.ownBlock = some q then k else f q) = j
   rw [if_neg (fun e => ?_)]
   ·exact (hf j hj q hq).1
   ·rcases hat with e2 | ⟨b, e2, hb⟩
    ·exact hkj (by rw [← (hf k hk q (e2 ▸ e)).1, ← (hf j hj q hq).1])
    ·rw [e] at e2; injection e2 with e2
     have := ((h.own j hj).lt q hq).2
     omega
def part (ar : List (List Int)) (v j : Nat) : List (List Int) := (List.range ar.length).map fun u => if u < v then gl ar u else if u = v then (gl ar v).take j else []
theorem part_length (ar : List (List Int)) (v j : Nat) : (part ar v j).length = ar.length := by simp [part]
theorem gl_part {ar : List (List Int)} {v j u : Nat} (h : u < ar.length) : gl (part ar v j) u = if u < v then gl ar u else if u = v then (gl ar v).take j else [] := by
 unfold part gl
 simp [List.getD_eq_getElem?_getD, h]
theorem gl_eq {x y : List (List Int)} (hl : x.length = y.length) (h : ∀ v, v < x.length → gl x v = gl y v) : x = y := by
 refine List.ext_getElem hl fun p h1 h2 => ?_
 have := h p h1
 unfold gl at this
 simpa [List.getD_eq_getElem?_getD, h1, h2] using this
theorem part_set {ar : List (List Int)} {v j : Nat} (hv : v < ar.length) (hj : j < (gl ar v).length) : (part ar v j).set v (gl (part ar v j) v ++ [gi (gl ar v) j]) = part ar v (j + 1) := by
 refine gl_eq (by simp [part]) fun u hu => ?_
 rw [List.length_set, part_length] at hu
 rw [gl_set, part_length, gl_part hu, gl_part hu, gl_part hv]
 by_cases e : v = u
 ·subst e
  rw [if_pos ⟨rfl, hu⟩, if_neg (Nat.lt_irrefl _), if_pos rfl, if_neg (Nat.lt_irrefl _), if_pos rfl, List.take_succ_eq_append_getElem hj]
  simp [gi, List.getD_eq_getElem?_getD, hj]
 ·rw [if_neg (fun q => e q.1)]
  by_cases c : u < v
  ·rw [if_pos c, if_pos c]
  ·rw [if_neg c, if_neg c, if_neg (fun q => e q.symm), if_neg (fun q => e q.symm)]
theorem part_next {ar : List (List Int)} {v : Nat} (hv : v < ar.length) : part ar v (gl ar v).length = part ar (v + 1) 0 := by
 refine gl_eq (by simp [part]) fun u hu => ?_
 rw [part_length] at hu
 rw [gl_part hu, gl_part hu]
 by_cases c : u < v
 ·rw [if_pos c, if_pos (by omega)]
 ·rw [if_neg c]
  by_cases e : u = v
  ·subst e
   rw [if_pos rfl, if_pos (by omega), List.take_length]
  ·rw [if_neg e, if_neg (by omega)]
   by_cases g : u = v + 1
   ·rw [if_pos g]; rfl
   ·rw [if_neg g]
theorem part_all (ar : List (List Int)) : part ar ar.length 0 = ar := by
 refine gl_eq (by simp [part]) fun u hu => ?_
 rw [part_length] at hu
 rw [gl_part hu, if_pos hu]
theorem part_none (ar : List (List Int)) : part ar 0 0 = List.replicate ar.length [] := by
 refine gl_eq (by simp [part]) fun u hu => ?_
 rw [part_length] at hu
 rw [gl_part hu, gl_nil, if_neg (by omega)]
 by_cases g : u = 0
 ·rw [if_pos g]; rfl
 ·rw [if_neg g]
theorem part_app {w w1 : World} {B bo : Nat} {vs : List Value} {ar : List (List Int)} {v j : Nat} (h : Rows2 w B bo vs (part ar v j)) (hv : v < ar.length) (hj : j < (gl ar v).length) {V v' : Value} {y : Int} (hV : va vs v = V) (hy : gi (gl ar v) j = y)
  (hown : w1.ownsRow B 3 1 v' (j + 1) (encs (Value.int .i64) ((gl ar v).take j) ++ [.int .i64 y])) (hg : w.grownBy w1 V.ownBlock) (hat : v'.ownBlock = V.ownBlock ∨ ∃ b, v'.ownBlock = some b ∧ w.heap.size ≤ b) :
  Rows2 (w1.setCell ⟨bo, v, none⟩ v') B bo (vs.set v v') (part ar v (j + 1)) ∧ w1.cell? ⟨bo, v, none⟩ = some V ∧ w1.frozen? ⟨bo, v, none⟩ = false := by
 have e : gl (part ar v j) v = (gl ar v).take j := by rw [gl_part hv, if_neg (Nat.lt_irrefl _), if_pos rfl]
 have hk : v < (part ar v j).length := by rw [part_length]; exact hv
 subst hV
 have e2 : ((gl ar v).take j).length = j := by rw [List.length_take]; omega
 have ho1 : w1.heap[bo]? = some (.cells vs.toArray 27 (0, 0)) := by
  obtain ⟨f, hf⟩ := h.col
  exact (hg.block bo (lt_of h.out) (fun e => (hf v hk bo e.symm).2 rfl)).trans h.out
 have hl := h.len
 refine ⟨?_, heap_cell ho1 (by simp [va_of (show v < vs.length by omega)]), heap_free ho1 v⟩
 rw [← part_set hv hj, hy]
 exact Rows2.app h hk (by rw [e, e2]; exact hown) hg hat
def twin (h : Int) : Int := Go.bits .xor .i64 h 1
def aroundOf (fr : List Int) (r : List (List Int)) : List (List Int) := r.map fun row => row.map fun h => gi fr (twin h).toNat
theorem aroundOf_length (fr : List Int) (r : List (List Int)) : (aroundOf fr r).length = r.length := by simp [aroundOf]
theorem aroundOf_row {fr : List Int} {r : List (List Int)} {v : Nat} (hv : v < r.length) : gl (aroundOf fr r) v = (gl r v).map fun h => gi fr (twin h).toNat := by
 unfold aroundOf
 unfold gl
 simp [List.getD_eq_getElem?_getD, hv]
theorem aroundOf_at {fr : List Int} {r : List (List Int)} {v j : Nat} (hv : v < r.length) (hj : j < (gl r v).length) : gi (gl (aroundOf fr r) v) j = gi fr (twin (gi (gl r v) j)).toNat := by
 rw [aroundOf_row hv]
 unfold gi
 simp [List.getD_eq_getElem?_getD, hj]
theorem around_bad (n : Int) (A : Option Addr) (m c : Nat) (A1 : Option Addr) (m1 c1 : Nat) (v0 e0 : Int) (he : e0 ≠ 0) (w : World)
  (hc : ∀ W : World, Below w.heap.size w W → Calls Try.prog 43 #[.agg #[.int .i64 n, .slice A m c], .slice A1 m1 c1] W fun e w' => e = .returned (.tuple #[.int .i64 v0, .int .i64 e0]) ∧ Below W.heap.size W w') :
  Calls Try.prog 47 #[.agg #[.int .i64 n, .slice A m c], .slice A1 m1 c1] w fun e w' => e = .returned (.tuple #[.slice none 0 0, .int .i64 e0]) ∧ Below w.heap.size w w' := by
 have HX := Aside0.mk (heap_last w (.cells #[.int .i64 n, .slice A m c] 24 (0, 0)))
 have HB : Aside0 (Below w.heap.size w (w.alloc (.cells #[.int .i64 n, .slice A m c] 24 (0, 0)))) := ⟨(Below.refl _ _).alloc (Nat.le_refl _) _⟩
 have x0 := heap_cell (i := 0) HX.out rfl
 have x1 := heap_cell (i := 1) HX.out rfl
 have HC := Aside0.mk (hc _ HB.out)
 have hne : (e0 != 0) = true := bne_iff_ne.2 he
 clear hc
 go_enter Try.func47, Try.ntmps47
 go_wp2_with fail
 refine (HC.out).mono ?_
 rintro e w2 ⟨rfl, hb⟩
 have HB2 := Aside0.mk (HB.out.trans (hb.mono HB.out.size))
 clear hb
 go_wp2_with fail
 go_ret2
 exact ⟨rfl, HB2.out⟩
theorem around_calls (v0 : Int) (n : Int) (A : Option Addr) (c : Nat) (es : List (Int × Int)) (A1 : Option Addr) (c1 : Nat) (r : List (List Int)) (w : World) (he : Pairs w A es) (hl : es.length ≤ 4194304) (hr : Kd.C KR w A1 r.length r) (hn : r.length ≤ 1048576) (hlen : ∀ v, v < r.length → (gl r v).length ≤ 8388608)
  (htw : ∀ v j, v < r.length → j < (gl r v).length → 0 ≤ twin (gi (gl r v) j) ∧ twin (gi (gl r v) j) < ((2 * es.length : Nat) : Int))
  (hc : ∀ W : World, Below w.heap.size w W → Calls Try.prog 43 #[.agg #[.int .i64 n, .slice A es.length c], .slice A1 r.length c1] W fun e w' => e = .returned (.tuple #[.int .i64 v0, .int .i64 0]) ∧ Below W.heap.size W w') :
  Calls Try.prog 47 #[.agg #[.int .i64 n, .slice A es.length c], .slice A1 r.length c1] w fun e w' => ∃ v, e = .returned (.tuple #[v, .int .i64 0]) ∧ Kd.S KR 27 w' w.heap.size (fun _ => True) v (aroundOf (froms es) r) ∧ Below w.heap.size w w' := by
 have HX := Aside0.mk (heap_last w (.cells #[.int .i64 n, .slice A es.length c] 24 (0, 0)))
 have HB : Aside0 (Below w.heap.size w (w.alloc (.cells #[.int .i64 n, .slice A es.length c] 24 (0, 0)))) := ⟨(Below.refl _ _).alloc (Nat.le_refl _) _⟩
 have x0 := heap_cell (i := 0) HX.out rfl
 have x1 := heap_cell (i := 1) HX.out rfl
 have HC := Aside0.mk (hc _ HB.out)
 have HE := Aside0.mk he
 have HR := Aside0.mk hr
 have HT := Aside0.mk htw
 have HN := Aside0.mk hlen
 clear hc he hr htw hlen
 go_enter Try.func47, Try.ntmps47
 go_wp2_with fail
 refine (HC.out).mono ?_
 rintro e w2 ⟨rfl, hb⟩
 have HB2 := Aside0.mk (HB.out.trans (hb.mono HB.out.size))
 have HX2 := Aside0.mk ((hb.block _ (lt_of HX.out)).trans HX.out)
 clear hb x0 x1 HX HB
 have x0 := heap_cell (i := 0) HX2.out rfl
 have x1 := heap_cell (i := 1) HX2.out rfl
 have hsz := HB2.out.size
 go_wp2_with fail
 refine (begins_calls n A c es w2 (HE.out.below HB2.out) hl).mono ?_
 rintro e w3 ⟨v3, rfl, hR3, hb3⟩
 have HB3 := Aside0.mk (HB2.out.trans (hb3.mono HB2.out.size))
 obtain ⟨A3, c3, hv3, hc3, hC3⟩ := Kd.R_reads hR3
 have hfl := froms_length es
 rw [hfl] at hv3
 subst hv3
 have HF := Aside0.mk hC3
 have HFL := Aside0.mk hfl
 obtain ⟨fr, hfr⟩ : ∃ fr, fr = froms es := ⟨_, rfl⟩
 rw [← hfr] at HF HFL
 have HFR := Aside0.mk hfr
 have hs3 := HB3.out.size
 clear hR3 hC3 hb3 hc3 hfl hfr x0 x1 HX2 HB2 HE HC hsz
 have mk1 := print_make_of (P := Try.prog) 25 27 (.slice none 0 0) 24 Try.underlying25 info_ints rfl (by decide) r.length (by omega)
 rw [made_nil] at mk1
 go_wp2_with fail
 clear mk1
 have HG := Aside0.mk (Rows2.start w3 r.length)
 have HB4 : Aside0 (Below w.heap.size w (w3.alloc (.cells (Array.replicate r.length (Value.slice none 0 0)) 27 (0, 0)))) := ⟨HB3.out.alloc hs3 _⟩
 have HF4 : Aside0 (Below w3.heap.size w3 (w3.alloc (.cells (Array.replicate r.length (Value.slice none 0 0)) 27 (0, 0)))) := ⟨(Below.refl _ _).alloc (Nat.le_refl _) _⟩
 obtain ⟨ar, har⟩ : ∃ ar, ar = aroundOf fr r := ⟨_, rfl⟩
 have harl : ar.length = r.length := by rw [har, aroundOf_length]
 rw [show List.replicate r.length [] = part ar 0 0 by rw [part_none, harl]] at HG
 generalize w3.alloc (.cells (Array.replicate r.length (Value.slice none 0 0)) 27 (0, 0)) = w4 at HG HB4 HF4 ⊢
 obtain ⟨bo, hbo⟩ : ∃ bo, bo = w3.heap.size := ⟨_, rfl⟩
 rw [← hbo] at HG ⊢
 have HAT : Aside0 (∀ v j, v < r.length → j < (gl r v).length → gi (gl ar v) j = gi fr (twin (gi (gl r v) j)).toNat) := ⟨fun v j h1 h2 => by rw [har]; exact aroundOf_at h1 h2⟩
 have HAL : Aside0 (∀ v, v < r.length → (gl ar v).length = (gl r v).length) := ⟨fun v h1 => by rw [har, aroundOf_row h1, List.length_map]⟩
 have HARL := Aside0.mk harl
 have HAR := Aside0.mk har
 have HBO : Aside0 (w.heap.size ≤ bo ∧ bo = w3.heap.size) := ⟨by omega, hbo⟩
 clear har harl hbo
 obtain ⟨i0, hi0, hz0, hz1, hz2⟩ := info_parts info_int
 go_loopw [30] (fun y wr => ∃ (v : Nat) (vs : List Value), y = .int .i64 (v : Int) ∧ v ≤ r.length ∧ Aside0 (Rows2 wr (bo + 1) bo vs (part ar v 0)) ∧ Aside0 (Below w.heap.size w wr) ∧ Aside0 (Below w3.heap.size w3 wr)) (fun y _ => r.length - (intOf y).toNat)
 case atStart => exact ⟨0, _, rfl, by omega, HG, HB4, HF4⟩
 case round =>
  clear HG HB4 HF4
  obtain ⟨v, vs, rfl, hi, HG, HB, HF3⟩ := hrel
  by_cases hlt : v < r.length
  ·obtain ⟨ad, D, cD, eA, hx0, hcD, hrow⟩ := row_at HR.out hlt
   subst eA
   have hx := (HB.out.cell (cell_lt hx0)).trans hx0
   clear hx0
   have HROW := Aside0.mk hrow
   have hal := HAL.out v hlt
   have hrl := HN.out v hlt
   have HT2 : Aside0 (∀ j, j < (gl r v).length → 0 ≤ twin (gi (gl r v) j) ∧ twin (gi (gl r v) j) < ((2 * es.length : Nat) : Int)) := ⟨fun j hj => HT.out v j hlt hj⟩
   have HA2 : Aside0 (∀ j, j < (gl r v).length → gi (gl ar v) j = gi fr (twin (gi (gl r v) j)).toNat) := ⟨fun j hj => HAT.out v j hlt hj⟩
   obtain ⟨row, hrw⟩ : ∃ row, row = gl r v := ⟨_, rfl⟩
   rw [← hrw] at hx hcD HROW hal hrl HT2 HA2
   have HAL2 := Aside0.mk hal
   clear hrow hrw hal
   go_wp2_with fail
   have HP0 := Aside0.mk (part_next (ar := ar) (v := v) (by rw [HARL.out]; exact hlt))
   have HVL : Aside0 (v < ar.length) := ⟨by rw [HARL.out]; exact hlt⟩
   go_loopw [37] (fun y wr => ∃ (j : Nat) (vs : List Value), y = .int .i64 (j : Int) ∧ j ≤ row.length ∧ Aside0 (Rows2 wr (bo + 1) bo vs (part ar v j)) ∧ Aside0 (Below w.heap.size w wr) ∧ Aside0 (Below w3.heap.size w3 wr)) (fun y _ => row.length - (intOf y).toNat)
   case atStart => exact ⟨0, vs, rfl, by omega, HG, HB, HF3⟩
   case round =>
    clear HG HB HF3 hx
    obtain ⟨j, vs, rfl, hj, HG, HB, HF3⟩ := hrel
    by_cases hjl : j < row.length
    ·obtain ⟨ad2, eA, hx⟩ := Kd.at_int (Kd.C_below HROW.out HB.out) (j : Int) (by omega) (by omega)
     subst eA
     obtain ⟨t1, t2⟩ := HT2.out j hjl
     obtain ⟨q, hq⟩ := Int.eq_ofNat_of_zero_le t1
     have hav := HA2.out j hjl
     rw [hq, Int.toNat_natCast] at hav
     rw [hq] at t2
     obtain ⟨x, hxx⟩ : ∃ x, x = gi row j := ⟨_, rfl⟩
     rw [gi_rd, ← hxx, Int.toNat_natCast] at hx
     rw [← hxx] at hq
     have hq2 : Go.bits .xor .i64 x 1 = (q : Int) := hq
     have t3 : (q : Int) < 2 * (es.length : Int) := by omega
     clear t1 hq hxx
     have hflen := HFL.out
     obtain ⟨adf, eF, hf⟩ := Kd.at_int (Kd.C_below HF.out HF3.out) (q : Int) (by omega) (by omega)
     subst eF
     rw [gi_rd, Int.toNat_natCast] at hf
     obtain ⟨y, hy⟩ : ∃ y, y = gi fr q := ⟨_, rfl⟩
     rw [← hy] at hf hav
     have HAV := Aside0.mk hav
     clear hy hav hflen
     have ho := HG.out.own v (by rw [part_length]; exact HVL.out)
     have eg : gl (part ar v j) v = (gl ar v).take j := by rw [gl_part HVL.out, if_neg (Nat.lt_irrefl _), if_pos rfl]
     have el : ((gl ar v).take j).length = j := by rw [List.length_take, HAL2.out]; omega
     rw [eg, el] at ho
     obtain ⟨Av, cv, hV⟩ := own_slice ho
     have HV := Aside0.mk hV
     rw [hV] at ho
     have hc := HG.out.cell (j := v) (by rw [part_length]; exact HVL.out)
     rw [hV] at hc
     have HO : Aside0 (wr.drew.ownsRow (bo + 1) 3 1 (.slice Av j cv) j (encs (Value.int .i64) ((gl ar v).take j))) := ⟨ho⟩
     have HGD : Aside0 (Rows2 wr.drew (bo + 1) bo vs (part ar v j)) := ⟨⟨HG.out.len, HG.out.out, HG.out.own, HG.out.col, HG.out.base⟩⟩
     have HBD : Aside0 (Below w.heap.size w wr.drew) := ⟨HB.out.drew⟩
     have HFD : Aside0 (Below w3.heap.size w3 wr.drew) := ⟨HF3.out.drew⟩
     have HS0 : Aside0 (wr.drew.cell? ⟨bo, v, none⟩ = some (.slice Av j cv)) := ⟨hc⟩
     have HS1 : Aside0 (wr.drew.cell? (adf.add q) = some (.int .i64 y)) := ⟨hf⟩
     clear ho eg el hV hc hf HG HB HF3
     go_wp2_with fail
     refine start_ (n := 15) (S := fun w' => w'.cell? ⟨bo, v, none⟩ = some (.slice Av j cv) ∧ w'.cell? (adf.add q) = some (.int .i64 y)) (ds := [12, 14]) (bm9 15 0) (by kernel_rfl) rfl rfl ⟨HS0.out, HS1.out⟩ (fun hHeld => ?_)
     refine pu9 0 41 (bm9 15 1) ?_
     refine pu9 1 42 (bm9 15 3) ?_
     refine pu9 2 43 (bm9 15 7) ?_
     refine pu9 3 44 (bm9 15 15) ?_
     refine pu9 4 45 (bm9 15 31) ?_
     refine pu9 6 47 (bm9 15 95) ?_
     refine pu9 7 48 (bm9 15 223) ?_
     refine pu9 8 49 (bm9 15 479) ?_
     refine pu9 9 50 (bm9 15 991) ?_
     refine tk29 5 46 (bm9 15 1023) hHeld ?_
     refine tk29 10 51 (bm9 15 2047) hHeld ?_
     refine one_ (i := 11) (N := some 52) (bm9 15 4095) rfl rfl (by kernel_rfl) (by decide) (fun K hK => ?_)
     refine va9 ?_
     refine hK.out _ _ ⟨(World.cell?_alloc_lt _ _ _ (World.block_lt_of_cell? _ _ hHeld.1)).trans hHeld.1, (World.cell?_alloc_lt _ _ _ (World.block_lt_of_cell? _ _ hHeld.2)).trans hHeld.2⟩ (fun hHeld => ?_)
     clear hK K
     refine nm9 ?_
     refine last_ (i := 12) (N := some 53) (bm9 15 8191) rfl rfl (by kernel_rfl) (by decide) (fun K hK => ?_)
     refine step_append_cells (bo + 1) (by rfl) (.tmp 46) (.tmp 52) 27 3 (.int .i64 0) 1 8 rfl Try.underlying27 info_int rfl (by decide) (by omega) (.slice Av j cv) j (encs (Value.int .i64) ((gl ar v).take j)) [.int .i64 y] rfl rfl rfl ?aN HO.out (Below.refl _ _) HGD.out.base ?aL ?_
     (case aN => intro u hu; simp at hu; subst hu; rfl)
     (case aL => omega)
     intro v1 w6 hown hb hg hat
     obtain ⟨A', c', rfl⟩ := own_slice hown
     obtain ⟨g1, g2, g3⟩ := part_app HGD.out HVL.out (by rw [HAL2.out]; exact hjl) HV.out HAV.out hown hg hat
     have HG6 := Aside0.mk g1
     have HB6 := Aside0.mk (HBD.out.grown hg HBD.out.size (fun k hk => by have := (HO.out.lt k hk).1; have := HBO.out.1; omega))
     have HF6 := Aside0.mk (HFD.out.grown hg HFD.out.size (fun k hk => by have := (HO.out.lt k hk).1; have := HBO.out.2; omega))
     refine hK.out _ _ ?_
     clear hK K
     refine nm9 ?_
     refine pu9 13 54 (bm9 15 16383) ?_
     refine last_ (i := 14) (N := none) (bm9 15 32767) rfl rfl (by kernel_rfl) (by decide) (fun K hK => ?_)
     refine skip_ (w1 := ?_) (by rfl) rfl ?_ ?_
     rotate_left
     ·go_simp
      rfl
     refine hK.out _ _ ?_
     clear hK K
     refine done_ (by kernel_rfl) ?_
     have HB7 := Aside0.mk (HB6.out.setCell (p := ⟨bo, v, none⟩) HBO.out.1 (.slice A' (j + 1) c'))
     have HF7 := Aside0.mk (HF6.out.setCell (p := ⟨bo, v, none⟩) (by have := HBO.out.2; simp; omega) (.slice A' (j + 1) c'))
     clear HB6 HF6
     go_wp2_with fail
     go_roundw
     case rel => exact ⟨j + 1, _, by go_num, by omega, HG6, HB7, HF7⟩
     case measure => simp [intOf]; omega
    ·obtain rfl : j = row.length := by omega
     rw [← HAL2.out, HP0.out] at HG
     go_wp2_with fail
     go_roundw
     case rel => exact ⟨v + 1, vs, by go_num, by omega, HG, HB, HF3⟩
     case measure => simp [intOf]; omega
  ·obtain rfl : v = r.length := by omega
   have hz := HG.out.tells (base := w.heap.size) HBO.out.1 (by have := HBO.out.1; omega) (by rw [part_length, HARL.out]; omega)
   rw [part_length, HARL.out, show part ar r.length 0 = ar by rw [← HARL.out]; exact part_all ar, HAR.out, HFR.out] at hz
   have HZ := Aside0.mk hz
   clear hz
   go_wp2_with fail
   go_ret2
   exact ⟨_, rfl, HZ.out, HB.out⟩
end Rot
namespace Mem
open Go.Maps
open Go.ChangeMaps (setBlock heap_setBlock_same heap_setBlock_other)
open Go.WideMaps Go.MapKept
def MapAt (P : Program) (k : TypeId) (w : World) (b s : Nat) (f : Value → Option Value) : Prop :=
 ∃ es clock, w.heap[b]? = some (.map es clock) ∧ Stamped es clock ∧ es.size ≤ s ∧ (∀ x ∈ es.toList, ∃ l, keyOf P k x.key = some l) ∧ (∀ x ∈ es.toList, f x.key = some x.val) ∧ ∀ kv v, f kv = some v → ∃ x ∈ es.toList, x.key = kv
section
variable {P : Program} {k : TypeId} {w : World} {b s : Nat} {f : Value → Option Value}
theorem MapAt.new (P : Program) (k : TypeId) (w : World) (c : Nat) : MapAt P k (w.alloc (.map #[] c)) w.heap.size 0 (fun _ => none) :=
 ⟨#[], c, heap_last w _, ⟨by simp, by simp, by simp⟩, Nat.le_refl _, by simp, by simp, by simp⟩
theorem MapAt.lt (h : MapAt P k w b s f) : b < w.heap.size := by
 obtain ⟨es, c, h1, _⟩ := h
 exact lt_of h1
theorem MapAt.move {w' : World} (h : MapAt P k w b s f) (hb : w'.heap[b]? = w.heap[b]?) : MapAt P k w' b s f := by
 obtain ⟨es, c, h1, h2⟩ := h
 exact ⟨es, c, hb.trans h1, h2⟩
theorem MapAt.below {w' : World} (h : MapAt P k w b s f) (hb : Below w.heap.size w w') : MapAt P k w' b s f := h.move (hb.block b h.lt)
theorem MapAt.frame {S : Nat → Prop} {w' : World} (h : MapAt P k w b s f) (hb : Frame S w w') (hs : ¬ S b) : MapAt P k w' b s f := h.move (hb.block b h.lt hs)
theorem MapAt.mono {s' : Nat} (h : MapAt P k w b s f) (hs : s ≤ s') : MapAt P k w b s' f := by
 obtain ⟨es, c, h1, h2, h3, h4⟩ := h
 exact ⟨es, c, h1, h2, Nat.le_trans h3 hs, h4⟩
theorem setBlock_frame {o : Obj} (hb : b < w.heap.size) : Frame (fun i => i = b) w (setBlock w b o) := by
 refine ⟨rfl, rfl, rfl, by simp [setBlock], fun i hi hne => ?_⟩
 unfold setBlock
 simp only
 rw [Array.getElem?_setIfInBounds, if_neg (fun e => hne e.symm)]
theorem MapAt.put {t e : TypeId} (K : Keyed P k) (ht : P.underlying t = some (.map k e)) (h : MapAt P k w b s f) (hs : s < maxLen) {key val : Value} {kl : Lit} (hkey : keyOf P k key = some kl) {f' : Value → Option Value} (hf1 : f' key = some val) (hf2 : ∀ q, q ≠ key → f' q = f q) :
  ∃ w', (Instr.mapUpdate t (.map (some b)) key val).run P w = .ok () w' ∧ MapAt P k w' b (s + 1) f' ∧ Frame (fun i => i = b) w w' := by
 obtain ⟨es, clock, hb, hst, hsz, hks, hin, hof⟩ := h
 rcases K.find w hkey es.toList hks with ⟨h1, h2⟩ | ⟨j, e0, h1, h2, h3⟩
 ·refine ⟨setBlock w b (.map (es.push ⟨key, val, clock⟩) (clock + 1)), ?_, ⟨es.push ⟨key, val, clock⟩, clock + 1, heap_setBlock_same hb _, stamped_push hst h2, by simp; omega, ?_, ?_, ?_⟩, setBlock_frame (lt_of hb)⟩
  ·simp [Instr.mapUpdate, run_underlying ht, MapKept.run_getObj_map hb, K.check w false hkey, h1, MapKept.run_setObj_map _ hb, Result.andThen, setBlock]
  ·intro x hx
   simp only [Array.toList_push, List.mem_append, List.mem_singleton] at hx
   rcases hx with hx | rfl
   ·exact hks x hx
   ·exact ⟨kl, hkey⟩
  ·intro x hx
   simp only [Array.toList_push, List.mem_append, List.mem_singleton] at hx
   rcases hx with hx | rfl
   ·rw [hf2 _ (h2 x hx)]; exact hin x hx
   ·exact hf1
  ·intro q v hq
   simp only [Array.toList_push, List.mem_append, List.mem_singleton]
   rcases Classical.em (q = key) with c | c
   ·exact ⟨_, .inr rfl, c.symm⟩
   ·rw [hf2 _ c] at hq
    obtain ⟨x, hx, e⟩ := hof q v hq
    exact ⟨x, .inl hx, e⟩
 ·have hj : es[j]? = some e0 := by simpa using h2
  have hjl : j < es.toList.length := (List.getElem?_eq_some_iff.1 h2).1
  have hkeyf : ∀ e', es[j]? = some e' → ({ e' with key := key, val := val } : MapEntry).key = e'.key := fun e' he' => by rw [hj] at he'; cases he'; exact h3.symm
  have hl : (es.modify j (fun e' => { e' with key := key, val := val })).toList = es.toList.set j { e0 with key := key, val := val } := by
   rw [Array.toList_modify, Go.ChangeMaps.modify_eq_set _ _ _ _ h2]
  have hnd : es.toList.Pairwise (fun x y => x.key ≠ y.key) := by
   have := hst.2.2
   rw [List.Nodup, List.pairwise_map] at this
   exact this
  refine ⟨setBlock w b (.map (es.modify j (fun e' => { e' with key := key, val := val })) clock), ?_, ⟨_, clock, heap_setBlock_same hb _, stamped_modify hst _ _ (fun _ _ => rfl) (fun e' _ he' => hkeyf e' he'), by simp; omega, ?_, ?_, ?_⟩, setBlock_frame (lt_of hb)⟩
  ·simp [Instr.mapUpdate, run_underlying ht, MapKept.run_getObj_map hb, K.check w false hkey, h1, hj, h3, K.stays w hkey, MapKept.run_setObj_map _ hb, Result.andThen, setBlock]
  ·intro x hx
   rw [hl] at hx
   rcases List.mem_or_eq_of_mem_set hx with hx | rfl
   ·exact hks x hx
   ·exact ⟨kl, hkey⟩
  ·intro x hx
   rw [hl] at hx
   obtain ⟨i, hi, e⟩ := List.getElem_of_mem hx
   rw [List.length_set] at hi
   rw [List.getElem_set] at e
   by_cases c : j = i
   ·rw [if_pos c] at e
    rw [← e]
    exact hf1
   ·rw [if_neg c] at e
    rw [hf2]
    ·exact hin x (by rw [← e]; exact List.getElem_mem hi)
    ·intro q
     have e0j : es.toList[j] = e0 := (List.getElem?_eq_some_iff.1 h2).2
     rcases Nat.lt_or_gt_of_ne c with g | g
     ·exact List.pairwise_iff_getElem.1 hnd j i hjl hi g (by rw [e0j, e, h3, q])
     ·exact List.pairwise_iff_getElem.1 hnd i j hi hjl g (by rw [e0j, e, h3, q])
  ·intro q v hq
   rw [hl]
   rcases Classical.em (q = key) with c | c
   ·exact ⟨{ e0 with key := key, val := val }, List.mem_iff_getElem.2 ⟨j, by rw [List.length_set]; exact hjl, by simp⟩, c.symm⟩
   ·rw [hf2 _ c] at hq
    obtain ⟨x, hx, e⟩ := hof q v hq
    obtain ⟨i, hi, ex⟩ := List.getElem_of_mem hx
    have hij : j ≠ i := by
     rintro rfl
     have e0j : es.toList[j] = e0 := (List.getElem?_eq_some_iff.1 h2).2
     rw [e0j] at ex
     exact c (by rw [← e, ← ex, h3])
    exact ⟨x, List.mem_iff_getElem.2 ⟨i, by rw [List.length_set]; exact hi, by rw [List.getElem_set, if_neg hij]; exact ex⟩, e⟩
theorem MapAt.get {t e : TypeId} (K : Keyed P k) (ht : P.underlying t = some (.map k e)) (h : MapAt P k w b s f) {z : Value} (hz : (zeroValue e).run P w = .ok z w) {key : Value} {kl : Lit} (hkey : keyOf P k key = some kl) :
  (Instr.lookup t (.map (some b)) key false).run P w = .ok ((f key).getD z) w := by
 obtain ⟨es, clock, hb, hst, hsz, hks, hin, hof⟩ := h
 rcases K.find w hkey es.toList hks with ⟨h1, h2⟩ | ⟨j, e0, h1, h2, h3⟩
 ·have hn : f key = none := by
   cases e : f key with
   | none => rfl
   | some v =>
    obtain ⟨x, hx, q⟩ := hof key v e
    exact absurd q (h2 x hx)
  rw [hn]
  simp [Instr.lookup, run_underlying ht, MapKept.run_getObj_map hb, K.check w _ hkey, h1, hz, Result.andThen]
 ·have hv := hin e0 (List.mem_of_getElem? h2)
  rw [h3] at hv
  rw [hv]
  simp [Instr.lookup, run_underlying ht, MapKept.run_getObj_map hb, K.check w _ hkey, h1, Result.andThen]
end
end Mem
end Go.Proofs.Ytaepieadbfndnaa
namespace Go.Proofs.Ytaepieadbfndnaa.Cnt
open Go.Maps Go.MapKept
open Go.RowKit Go.Proofs.YtaepieadbfndnaaW.PrintWords Go.Proofs.YtaepieadbfndnaaW.PrintLast Go.Proofs.Ytaepieadbfndnaa.Mem
def InI (x : Int) : Prop := -9223372036854775808 ≤ x ∧ x ≤ 9223372036854775807
theorem lawInt : Keyed Try.prog 3 := int_keyed Try.underlying3
theorem key_int {x : Int} (h : InI x) : ∃ l, keyOf Try.prog 3 (.int .i64 x) = some l := ⟨_, keyOf_int_mk Try.underlying3 (by
 obtain ⟨a, b⟩ := h
 have e1 : IntKind.i64.min = -9223372036854775808 := by decide
 have e2 : IntKind.i64.max = 9223372036854775807 := by decide
 simp [Lit.wf, e1, e2, a, b])⟩
def tv (a b c : Int) : Value := .agg #[.int .i64 a, .int .i64 b, .int .i64 c]
def MapT (w : World) (b s : Nat) (S : List Int) (A B C : Int → Int) : Prop :=
 ∃ f, MapAt Try.prog 3 w b s f ∧ (∀ k, f (.int .i64 k) = if k ∈ S then some (tv (A k) (B k) (C k)) else none) ∧ (∀ v x, f v = some x → ∃ k, v = .int .i64 k) ∧ ∀ k, k ∉ S → A k = 0 ∧ B k = 0 ∧ C k = 0
theorem MapT.new (w : World) (c : Nat) : MapT (w.alloc (.map #[] c)) w.heap.size 0 [] (fun _ => 0) (fun _ => 0) (fun _ => 0) :=
 ⟨_, MapAt.new _ _ _ _, fun k => by simp, fun v x h => by simp at h, fun _ _ => ⟨rfl, rfl, rfl⟩⟩
section
variable {w w' : World} {b s : Nat} {S : List Int} {A B C : Int → Int}
theorem MapT.move (h : MapT w b s S A B C) (hb : w'.heap[b]? = w.heap[b]?) : MapT w' b s S A B C := by
 obtain ⟨f, h1, h2⟩ := h
 exact ⟨f, h1.move hb, h2⟩
theorem MapT.lt (h : MapT w b s S A B C) : b < w.heap.size := by
 obtain ⟨f, h1, _⟩ := h
 exact h1.lt
theorem MapT.same {S' : List Int} (h : MapT w b s S A B C) (hs : ∀ k, k ∈ S ↔ k ∈ S') : MapT w b s S' A B C := by
 obtain ⟨f, h1, h2, h3, h4⟩ := h
 refine ⟨f, h1, fun k => ?_, h3, fun k hk => h4 k (fun e => hk ((hs k).1 e))⟩
 rw [h2]
 by_cases c : k ∈ S
 ·rw [if_pos c, if_pos ((hs k).1 c)]
 ·rw [if_neg c, if_neg (fun e => c ((hs k).2 e))]
def up (f : Int → Int) (k x : Int) : Int → Int := fun q => if q = k then x else f q
theorem MapT.put (h : MapT w b s S A B C) (hs : s ≤ 900000000000000000) {k : Int} (hk : InI k) (x y z : Int) :
  ∃ w', (Instr.mapUpdate 106 (.map (some b)) (.int .i64 k) (tv x y z)).run Try.prog w = .ok () w' ∧ MapT w' b (s + 1) (S ++ [k]) (up A k x) (up B k y) (up C k z) ∧ Mem.Frame (fun i => i = b) w w' := by
 obtain ⟨f, h1, h2, h3, h4⟩ := h
 obtain ⟨l, hl⟩ := key_int hk
 classical
 obtain ⟨w', e1, e2, e3⟩ := h1.put (t := 106) (e := 108) lawInt (by kernel_rfl) (by unfold maxLen; omega) (val := tv x y z) hl (f' := fun q => if q = .int .i64 k then some (tv x y z) else f q) (if_pos rfl) (fun q hq => if_neg hq)
 refine ⟨w', e1, ⟨_, e2, fun p => ?_, fun v u hv => ?_, fun p hp => ?_⟩, e3⟩
 ·by_cases c : p = k
  ·subst c
   rw [if_pos rfl, if_pos (by simp)]
   simp only [up, if_true]
  ·rw [if_neg (fun e => c (by simpa using e)), h2]
   simp only [up, if_neg c]
   by_cases d : p ∈ S
   ·rw [if_pos d, if_pos (by simp [d])]
   ·rw [if_neg d, if_neg (by simp [d, c])]
 ·by_cases c : v = .int .i64 k
  ·exact ⟨k, c⟩
  ·simp only [if_neg c] at hv
   exact h3 v u hv
 ·simp only [List.mem_append, List.mem_singleton, not_or] at hp
  simp only [up, if_neg hp.2]
  exact h4 p hp.1
theorem MapT.get (h : MapT w b s S A B C) {k : Int} (hk : InI k) :
  (Instr.lookup 106 (.map (some b)) (.int .i64 k) false).run Try.prog w = .ok (tv (A k) (B k) (C k)) w := by
 obtain ⟨f, h1, h2, h3, h4⟩ := h
 obtain ⟨l, hl⟩ := key_int hk
 have := h1.get (t := 106) (e := 108) lawInt (by kernel_rfl) (z := tv 0 0 0) (by kernel_rfl) hl
 rw [this, h2]
 by_cases c : k ∈ S
 ·rw [if_pos c]; rfl
 ·obtain ⟨a1, a2, a3⟩ := h4 k c
  rw [if_neg c, a1, a2, a3]; rfl
def seenG (g : MapEntry → Int) : List MapEntry → Array Nat → Int
 | [], _ => 0
 | x :: l, seen => (if seen.contains x.born then g x else 0) + seenG g l seen
theorem seenG_other (g : MapEntry → Int) (seen : Array Nat) (b : Nat) : ∀ (es : List MapEntry), b ∉ es.map (·.born) → seenG g es (seen.push b) = seenG g es seen
 | [], _ => rfl
 | x :: l, h => by
  have hx : (x.born == b) = false := by
   cases hc : x.born == b with
   | false => rfl
   | true => exact absurd (List.mem_cons.2 (Or.inl (beq_iff_eq.1 hc).symm)) h
  have ih := seenG_other g seen b l (fun e => h (List.mem_cons.2 (Or.inr e)))
  simp only [seenG, contains_push, hx, Bool.or_false, ih]
theorem seenG_push (g : MapEntry → Int) (seen : Array Nat) (e : MapEntry) (hs : seen.contains e.born = false) : ∀ (es : List MapEntry), (es.map (·.born)).Nodup → e ∈ es → seenG g es (seen.push e.born) = seenG g es seen + g e
 | x :: l, hn, he => by
  have hn' : x.born ∉ l.map (·.born) ∧ (l.map (·.born)).Nodup := List.nodup_cons.1 hn
  rcases List.mem_cons.1 he with rfl | h
  ·simp only [seenG, contains_push, hs, beq_self_eq_true, Bool.or_true, if_true, Bool.false_eq_true, if_false, seenG_other g seen e.born l hn'.1]
   omega
  ·have hx : (x.born == e.born) = false := by
    cases hc : x.born == e.born with
    | false => rfl
    | true => exact absurd (by rw [beq_iff_eq.1 hc]; exact List.mem_map.2 ⟨e, h, rfl⟩) hn'.1
   simp only [seenG, contains_push, hx, Bool.or_false, seenG_push g seen e hs l hn'.2 h]
   omega
theorem seenG_full (g : MapEntry → Int) (seen : Array Nat) : ∀ (es : List MapEntry), (∀ x ∈ es, seen.contains x.born = true) → seenG g es seen = (es.map g).sum
 | [], _ => rfl
 | x :: l, h => by
  simp only [seenG, h x (List.mem_cons.2 (Or.inl rfl)), if_true, List.map_cons, List.sum_cons, seenG_full g seen l (fun y hy => h y (List.mem_cons.2 (Or.inr hy)))]
theorem seenG_none (g : MapEntry → Int) : ∀ (es : List MapEntry), seenG g es #[] = 0
 | [] => rfl
 | x :: l => by
  have : (#[] : Array Nat).contains x.born = false := by simp
  simp only [seenG, this, Bool.false_eq_true, if_false, seenG_none g l]
  rfl
theorem seenG_all (g : MapEntry → Int) (es : Array MapEntry) (seen : Array Nat) (h : (leftOf es seen).size = 0) : seenG g es.toList seen = (es.toList.map g).sum := seenG_full g seen es.toList (all_seen es seen h)
theorem seenG_bound (g : MapEntry → Int) (seen : Array Nat) (D : Nat) : ∀ (es : List MapEntry), (∀ x ∈ es, -(D : Int) ≤ g x ∧ g x ≤ D) → -((es.length * D : Nat) : Int) ≤ seenG g es seen ∧ seenG g es seen ≤ ((es.length * D : Nat) : Int)
 | [], _ => by simp [seenG]
 | x :: l, h => by
  have ih := seenG_bound g seen D l (fun y hy => h y (List.mem_cons_of_mem _ hy))
  have hx := h x (List.mem_cons_self ..)
  have e : (x :: l).length * D = l.length * D + D := by rw [List.length_cons, Nat.succ_mul]
  rw [e]
  unfold seenG
  split <;> omega
theorem sum_perm {l m : List Int} (h : l.Perm m) : l.sum = m.sum := by
 induction h with
 | nil => rfl
 | cons x _ ih => rw [List.sum_cons, List.sum_cons, ih]
 | swap x y l => simp only [List.sum_cons]; omega
 | trans _ _ h1 h2 => exact h1.trans h2
theorem MapT.entries (h : MapT w b s S A B C) : ∃ es clock, w.heap[b]? = some (.map es clock) ∧ Stamped es clock ∧ es.size ≤ s ∧ (∀ x ∈ es.toList, ∃ k, k ∈ S ∧ x.key = .int .i64 k ∧ x.val = tv (A k) (B k) (C k)) ∧
  ∀ (G : Int → Int) (c : Nat), (∀ k, k ∈ S ↔ 0 ≤ k ∧ k < c) → (es.toList.map fun x => G (valOf x.key)).sum = ((List.range c).map fun (k : Nat) => G k).sum := by
 obtain ⟨f, ⟨es, clock, hb, hst, hsz, hks, hin, hof⟩, h2, h3, h4⟩ := h
 have hent : ∀ x ∈ es.toList, ∃ k, k ∈ S ∧ x.key = .int .i64 k ∧ x.val = tv (A k) (B k) (C k) := by
  intro x hx
  have h5 := hin x hx
  obtain ⟨k, hk⟩ := h3 _ _ h5
  rw [hk, h2] at h5
  by_cases c : k ∈ S
  ·rw [if_pos c] at h5
   exact ⟨k, c, hk, (Option.some.inj h5).symm⟩
  ·rw [if_neg c] at h5; cases h5
 refine ⟨es, clock, hb, hst, hsz, hent, fun G c hc => ?_⟩
 have hnd : (es.toList.map fun x => valOf x.key).Nodup := by
  have h5 := hst.2.2
  rw [List.Nodup, List.pairwise_map] at h5 ⊢
  refine List.Pairwise.imp_of_mem (fun {x y} hx hy hne => ?_) h5
  obtain ⟨k1, _, e1, _⟩ := hent x hx
  obtain ⟨k2, _, e2, _⟩ := hent y hy
  rw [e1, e2] at hne ⊢
  exact fun e => hne (by rw [show k1 = k2 from e])
 have hp : (es.toList.map fun x => valOf x.key).Perm ((List.range c).map fun (k : Nat) => (k : Int)) := by
  refine (List.perm_ext_iff_of_nodup hnd ?_).2 fun k => ?_
  ·rw [List.Nodup, List.pairwise_map]
   exact List.nodup_range.imp fun {a b} h e => h (by omega)
  ·rw [List.mem_map, List.mem_map]
   constructor
   ·rintro ⟨x, hx, rfl⟩
    obtain ⟨k1, m1, e1, _⟩ := hent x hx
    have := (hc k1).1 m1
    refine ⟨k1.toNat, by rw [List.mem_range]; omega, ?_⟩
    rw [e1]; show _ = k1; omega
   ·rintro ⟨n, hn, rfl⟩
    have hm : (n : Int) ∈ S := (hc n).2 (by rw [List.mem_range] at hn; omega)
    have h5 := h2 n
    rw [if_pos hm] at h5
    obtain ⟨x, hx, e⟩ := hof _ _ h5
    exact ⟨x, hx, by rw [e]; rfl⟩
 have h6 := sum_perm (hp.map G)
 rw [List.map_map, List.map_map] at h6
 exact h6
end
end Go.Proofs.Ytaepieadbfndnaa.Cnt
namespace Go.Proofs.Ytaepieadbfndnaa
open Go.RowKit Go.Proofs.YtaepieadbfndnaaW.PrintWords Go.Proofs.YtaepieadbfndnaaW.PrintLast Go.Proofs.YtaepieadbfndnaaW.PrintMore
namespace Cnt
open Go.Maps Go.MapKept
open Go.ChangeMaps (setBlock heap_setBlock_same heap_setBlock_other)
open Mem
def cntTo (ks : List Int) (i : Nat) (k : Int) : Int := ((ks.take i).countP (· == k) : Nat)
theorem cntTo_zero (ks : List Int) : cntTo ks 0 = fun _ => 0 := by funext k; simp [cntTo]
theorem cntTo_succ (ks : List Int) {i : Nat} (h : i < ks.length) : up (cntTo ks i) (gi ks i) (cntTo ks i (gi ks i) + 1) = cntTo ks (i + 1) := by
 funext k
 have e : ks.take (i + 1) = ks.take i ++ [gi ks i] := by
  rw [List.take_succ_eq_append_getElem h]
  simp [gi, List.getD_eq_getElem?_getD, h]
 unfold up cntTo
 rw [e, List.countP_append]
 by_cases c : k = gi ks i
 ·rw [if_pos c, c]; simp
 ·rw [if_neg c]; simp [Ne.symm c]
theorem cntTo_le (ks : List Int) (i : Nat) (k : Int) : 0 ≤ cntTo ks i k ∧ cntTo ks i k ≤ ks.length := by
 unfold cntTo
 have h1 := List.countP_le_length (p := (· == k)) (l := ks.take i)
 have h2 : (ks.take i).length ≤ ks.length := by rw [List.length_take]; omega
 omega
theorem up_self (f : Int → Int) (k : Int) : up f k (f k) = f := by funext q; unfold up; split <;> simp_all
def ksE (og : List Int) (es : List (Int × Int)) : List Int := es.map fun e => gi og e.1.toNat
def ksF (og : List Int) (es : List (Int × Int)) (fs : List (List Int)) : List Int := fs.map fun f => gi og (pe es ((gi f 0).toNat / 2)).1.toNat
theorem gi_ksE (og : List Int) (es : List (Int × Int)) {j : Nat} (h : j < es.length) : gi (ksE og es) j = gi og (pe es j).1.toNat := by simp [gi, ksE, pe, List.getD_eq_getElem?_getD, h]
theorem gi_ksF (og : List Int) (es : List (Int × Int)) (fs : List (List Int)) {q : Nat} (h : q < fs.length) : gi (ksF og es fs) q = gi og (pe es ((gi (gl fs q) 0).toNat / 2)).1.toNat := by simp [gi, gl, ksF, List.getD_eq_getElem?_getD, h]
def term (a m f : Int) : Int := if m > 0 then Int.tdiv (2 - a + m - f) 2 else 0
def genusSum (og : List Int) (es : List (Int × Int)) (fs : List (List Int)) (c : Nat) : Int :=
 ((List.range c).map fun (k : Nat) => term (cntTo og og.length k) (cntTo (ksE og es) es.length k) (cntTo (ksF og es fs) fs.length k)).sum
structure Fit (og : List Int) (es : List (Int × Int)) (fs : List (List Int)) (c : Nat) : Prop where
 hc : c ≤ 1048576
 ho : og.length ≤ 1048576
 he : es.length ≤ 4194304
 hf : fs.length ≤ 8388608
 key : ∀ k, k ∈ og ↔ 0 ≤ k ∧ k < (c : Int)
 edge : ∀ j, j < es.length → 0 ≤ (pe es j).1 ∧ (pe es j).1 < (og.length : Int)
 face : ∀ q, q < fs.length → 0 < (gl fs q).length ∧ 0 ≤ gi (gl fs q) 0 ∧ gi (gl fs q) 0 < ((2 * es.length : Nat) : Int)
theorem tdiv2 (x : Int) : Int.tdiv x 2 = if 0 ≤ x then x / 2 else -((-x) / 2) := by
 split
 ·exact Int.tdiv_eq_ediv_of_nonneg (by omega)
 ·have h := Int.neg_tdiv x 2
  have h1 : Int.tdiv (-x) 2 = (-x) / 2 := Int.tdiv_eq_ediv_of_nonneg (by omega)
  omega
theorem term_bound {a m f : Int} (ha : 0 ≤ a ∧ a ≤ 9000000) (hm : 0 ≤ m ∧ m ≤ 9000000) (hf : 0 ≤ f ∧ f ≤ 9000000) : -((20000000 : Nat) : Int) ≤ term a m f ∧ term a m f ≤ ((20000000 : Nat) : Int) := by
 unfold term
 split
 ·rw [tdiv2]
  split <;> omega
 ·omega
def GenusPost (g e0 : Int) (w : World) (e : Ending) (w' : World) : Prop := e = .returned (.tuple #[.int .i64 g, .int .i64 e0]) ∧ Below w.heap.size w w'
def OfSays (fs : List (List Int)) (e0 n : Int) (A : Option Addr) (m c : Nat) (Ar : Option Addr) (mr cr : Nat) (w : World) : Prop := ∀ W : World, Below w.heap.size w W →
 Calls Try.prog 62 #[.agg #[.int .i64 n, .slice A m c], .slice Ar mr cr] W fun e w' => ∃ v, e = .returned (.tuple #[v, .int .i64 e0]) ∧ Kd.R (Kd.slice 3 (Kd.int .i64)) 27 w' W.heap.size (fun _ => True) v fs ∧ Below W.heap.size W w'
def CompsSays (og : List Int) (k : Int) (n : Int) (A : Option Addr) (m c : Nat) (w : World) : Prop := ∀ W : World, Below w.heap.size w W →
 Calls Try.prog 63 #[.agg #[.int .i64 n, .slice A m c]] W fun e w' => ∃ v, e = .returned (.tuple #[v, .int .i64 k, .int .i64 0]) ∧ Kd.R (Kd.int .i64) 3 w' W.heap.size (fun _ => True) v og ∧ Below W.heap.size W w'
theorem setBlock_below {w : World} {b B : Nat} {o : Obj} (hb : B ≤ b) : Below B w (setBlock w b o) := by
 refine ⟨rfl, rfl, rfl, by simp [setBlock], fun i hi => ?_⟩
 unfold setBlock
 simp only
 rw [Array.getElem?_setIfInBounds, if_neg (by omega)]
theorem genus_bad (n : Int) (A : Option Addr) (m c0 : Nat) (Ar : Option Addr) (mr cr : Nat) (e0 : Int) (he : e0 ≠ 0) (fs : List (List Int)) (w : World) (hof : OfSays fs e0 n A m c0 Ar mr cr w) :
  Calls Try.prog 56 #[.agg #[.int .i64 n, .slice A m c0], .slice Ar mr cr] w fun e w' => GenusPost 0 e0 w e w' := by
 have HOF := Aside0.mk hof
 clear hof
 have HB := Aside0.mk ((Below.refl w.heap.size w).alloc (Nat.le_refl _) (.cells #[.int .i64 n, .slice A m c0] 24 (0, 0)))
 have HX := Aside0.mk (heap_last w (.cells #[.int .i64 n, .slice A m c0] 24 (0, 0)))
 have x0 : (w.alloc (.cells #[.int .i64 n, .slice A m c0] 24 (0, 0))).cell? ⟨w.heap.size, 0, none⟩ = some (.int .i64 n) := heap_cell HX.out rfl
 have x1 : (w.alloc (.cells #[.int .i64 n, .slice A m c0] 24 (0, 0))).cell? ⟨w.heap.size, 1, none⟩ = some (.slice A m c0) := heap_cell HX.out rfl
 have t1 : (e0 != 0) = true := bne_iff_ne.2 he
 go_enter Try.func56, Try.ntmps56
 go_wp2_with fail
 clear x0 x1
 generalize w.alloc (.cells #[.int .i64 n, .slice A m c0] 24 (0, 0)) = w1 at HX HB ⊢
 obtain ⟨bg, hbg⟩ : ∃ bg, bg = w.heap.size := ⟨_, rfl⟩
 rw [← hbg] at HX ⊢
 clear hbg
 refine (HOF.out w1 HB.out).mono ?_
 rintro e' w2 ⟨v, rfl, hR, hb⟩
 obtain ⟨AF, cF, rfl, hcF, hF⟩ := Kd.R_reads hR
 have HX2 := Aside0.mk ((hb.block _ (lt_of HX.out)).trans HX.out)
 have HB2 := Aside0.mk (HB.out.trans (hb.mono HB.out.size))
 have HF2 := Aside0.mk hF
 clear hb HX HB hR hF HOF
 go_wp2_with fail
 go_ret2
 exact ⟨rfl, HB2.out⟩
theorem take_snoc (ks : List Int) {i : Nat} (h : i < ks.length) : ks.take (i + 1) = ks.take i ++ [gi ks i] := by
 rw [List.take_succ_eq_append_getElem h]
 simp [gi, List.getD_eq_getElem?_getD, h]
theorem gi_mem {l : List Int} {i : Nat} (h : i < l.length) : gi l i ∈ l := by
 unfold gi
 rw [List.getD_eq_getElem?_getD, List.getElem?_eq_getElem h]
 exact List.getElem_mem h
theorem mem_snoc {S : List Int} {k : Int} (h : k ∈ S) (q : Int) : q ∈ S ++ [k] ↔ q ∈ S := by
 rw [List.mem_append, List.mem_singleton]
 exact ⟨fun e => e.elim id (fun e => e ▸ h), .inl⟩
theorem genus_ok (n : Int) (A : Option Addr) (es : List (Int × Int)) (m c0 : Nat) (Ar : Option Addr) (mr cr : Nat) (fs : List (List Int)) (og : List Int) (c : Nat) (w : World) (hm : m = es.length) (he : Pairs w A es) (hfit : Fit og es fs c) (hof : OfSays fs 0 n A m c0 Ar mr cr w) (hco : CompsSays og c n A m c0 w) :
  Calls Try.prog 56 #[.agg #[.int .i64 n, .slice A m c0], .slice Ar mr cr] w fun e w' => GenusPost (genusSum og es fs c) 0 w e w' := by
 have HOF := Aside0.mk hof
 have HCO := Aside0.mk hco
 have HE := Aside0.mk he
 have HME := Aside0.mk hm
 have HFIT := Aside0.mk hfit
 clear hof hco he hm hfit
 have HB := Aside0.mk ((Below.refl w.heap.size w).alloc (Nat.le_refl _) (.cells #[.int .i64 n, .slice A m c0] 24 (0, 0)))
 have HX := Aside0.mk (heap_last w (.cells #[.int .i64 n, .slice A m c0] 24 (0, 0)))
 have x0 : (w.alloc (.cells #[.int .i64 n, .slice A m c0] 24 (0, 0))).cell? ⟨w.heap.size, 0, none⟩ = some (.int .i64 n) := heap_cell HX.out rfl
 have x1 : (w.alloc (.cells #[.int .i64 n, .slice A m c0] 24 (0, 0))).cell? ⟨w.heap.size, 1, none⟩ = some (.slice A m c0) := heap_cell HX.out rfl
 go_enter Try.func56, Try.ntmps56
 go_wp2_with fail
 clear x0 x1
 generalize w.alloc (.cells #[.int .i64 n, .slice A m c0] 24 (0, 0)) = w1 at HX HB ⊢
 obtain ⟨bg, hbg⟩ : ∃ bg, bg = w.heap.size := ⟨_, rfl⟩
 rw [← hbg] at HX ⊢
 clear hbg
 refine (HOF.out w1 HB.out).mono ?_
 rintro e' w2 ⟨v, rfl, hR, hb⟩
 obtain ⟨AF, cF, rfl, hcF, hF⟩ := Kd.R_reads hR
 have HX2 := Aside0.mk ((hb.block _ (lt_of HX.out)).trans HX.out)
 have HB2 := Aside0.mk (HB.out.trans (hb.mono HB.out.size))
 have HF2 := Aside0.mk hF
 clear hb HX HB hR hF HOF
 have x0 : w2.cell? ⟨bg, 0, none⟩ = some (.int .i64 n) := heap_cell HX2.out rfl
 have x1 : w2.cell? ⟨bg, 1, none⟩ = some (.slice A m c0) := heap_cell HX2.out rfl
 go_wp2_with fail
 clear x0 x1
 refine (HCO.out w2 HB2.out).mono ?_
 rintro e' w3 ⟨v, rfl, hR, hb⟩
 obtain ⟨AO, cO, rfl, hcO, hO⟩ := Kd.R_reads hR
 have HX3 := Aside0.mk ((hb.block _ (lt_of HX2.out)).trans HX2.out)
 have HB3 := Aside0.mk (HB2.out.trans (hb.mono HB2.out.size))
 have HF3 := Aside0.mk (Kd.C_below HF2.out hb)
 have HO3 := Aside0.mk hO
 have HE3 := Aside0.mk (HE.out.below HB3.out)
 clear hb HX2 HB2 hR hO HF2 HCO HE
 have hmm := @run_makeMap Try.prog
 go_upto_region 6 with (fail)
 have HM0 := Aside0.mk (MapT.new w3 0)
 have HB4 := Aside0.mk ((Below.refl w3.heap.size w3).alloc (Nat.le_refl _) (.map #[] 0))
 obtain ⟨bm, hbm⟩ : ∃ bm, bm = w3.heap.size := ⟨_, rfl⟩
 rw [← hbm] at HM0 ⊢
 have HBM : Aside0 (bm = w3.heap.size) := ⟨hbm⟩
 generalize w3.alloc (.map #[] 0) = w4 at HM0 HB4 ⊢
 clear hmm hbm
 obtain ⟨ke, hke⟩ : ∃ ke, ke = ksE og es := ⟨_, rfl⟩
 obtain ⟨kf, hkf⟩ : ∃ kf, kf = ksF og es fs := ⟨_, rfl⟩
 have HKE := Aside0.mk hke
 have HKF := Aside0.mk hkf
 clear hke hkf
 obtain ⟨N, hN⟩ : ∃ N, N = og.length := ⟨_, rfl⟩
 have HN := Aside0.mk hN
 have hNb : N ≤ 1048576 := by rw [hN]; exact HFIT.out.ho
 have hM0 : MapT w4 bm 0 (og.take 0) (cntTo og 0) (cntTo ke 0) (cntTo kf 0) := by rw [cntTo_zero, cntTo_zero, cntTo_zero, List.take_zero]; exact HM0.out
 have HM1 := Aside0.mk hM0
 rw [← hN]
 clear hN HM0 hM0
 go_wp2_with fail
 go_loopw [43] (fun y wr => ∃ (i : Nat), y = .int .i64 (i : Int) ∧ i ≤ N ∧ Aside0 (MapT wr bm i (og.take i) (cntTo og i) (cntTo ke 0) (cntTo kf 0)) ∧ Aside0 (Below w3.heap.size w3 wr)) (fun y _ => N - (intOf y).toNat)
 case atStart => exact ⟨0, rfl, by omega, HM1, HB4⟩
 case round =>
  clear HM1 HB4
  obtain ⟨i, rfl, hi, HM, HB⟩ := hrel
  by_cases hlt : i < N
  ·have hlt2 : i < og.length := by rw [← HN.out]; exact hlt
   obtain ⟨ad, eA, hx⟩ := Kd.at_int (Kd.C_below HO3.out HB.out) (i : Int) (by omega) (by omega)
   subst eA
   rw [gi_rd, Int.toNat_natCast] at hx
   have hmem : gi og i ∈ og := by
    unfold gi
    rw [List.getD_eq_getElem?_getD, List.getElem?_eq_getElem hlt2]
    exact List.getElem_mem hlt2
   have hkk := (HFIT.out.key _).1 hmem
   have hcc := HFIT.out.hc
   have hk : InI (gi og i) := ⟨by omega, by omega⟩
   have hup := cntTo_succ og hlt2
   obtain ⟨k, hkd⟩ : ∃ k, k = gi og i := ⟨_, rfl⟩
   rw [← hkd] at hx hk hup
   have HUP := Aside0.mk hup
   have HKD := Aside0.mk hkd
   have hol := HN.out
   clear hkd hmem hkk hup hcc
   have la := HM.out.get hk
   obtain ⟨a0, ha0⟩ : ∃ a0, a0 = (cntTo og i) k := ⟨_, rfl⟩
   obtain ⟨b0, hb0⟩ : ∃ b0, b0 = (cntTo ke 0) k := ⟨_, rfl⟩
   obtain ⟨d0, hd0⟩ : ∃ d0, d0 = (cntTo kf 0) k := ⟨_, rfl⟩
   rw [← ha0, ← hb0, ← hd0] at la
   replace la : (Instr.lookup 106 (.map (some bm)) (.int .i64 k) false).run Try.prog wr = .ok (.agg #[.int .i64 a0, .int .i64 b0, .int .i64 d0]) wr := la
   have HAB : Aside0 (a0 = (cntTo og i) k ∧ b0 = (cntTo ke 0) k ∧ d0 = (cntTo kf 0) k) := ⟨ha0, hb0, hd0⟩
   have u0 : (wr.alloc (.cells #[.int .i64 a0, .int .i64 b0, .int .i64 d0] 108 (0, 0))).cell? ⟨wr.heap.size, 0, none⟩ = some (.int .i64 a0) := heap_cell (heap_last _ _) rfl
   have u3 : (wr.alloc (.cells #[.int .i64 a0, .int .i64 b0, .int .i64 d0] 108 (0, 0))).frozen? ⟨wr.heap.size, 0, none⟩ = false := heap_free (heap_last _ _) _
   obtain ⟨o1, ho1⟩ : ∃ o1, o1 = a0 + 1 := ⟨_, rfl⟩
   have q1 : IntKind.i64.wrap (a0 + 1) = o1 := by rw [ho1]; exact IntWalk.i64_in _ (by rw [ha0]; have := cntTo_le og i k; omega)
   have HO1 := Aside0.mk ho1
   clear ha0 hb0 hd0 ho1
   go_upto_region 11 with (fail)
   clear u0 u3 q1
   have HT6 := Aside0.mk (heap_last wr (.cells #[.int .i64 o1, .int .i64 b0, .int .i64 d0] 108 (0, 0)))
   have hb6 : Below wr.heap.size wr (wr.alloc (.cells #[.int .i64 o1, .int .i64 b0, .int .i64 d0] 108 (0, 0))) := (Below.refl _ _).alloc (Nat.le_refl _) _
   have HB6 := Aside0.mk (HB.out.trans (hb6.mono HB.out.size))
   have HM6 := Aside0.mk (HM.out.move (hb6.block _ HM.out.lt))
   clear hb6 la
   generalize wr.alloc (.cells #[.int .i64 o1, .int .i64 b0, .int .i64 d0] 108 (0, 0)) = w6 at HT6 HT6 HB6 HM6 ⊢
   obtain ⟨bt, hbt⟩ : ∃ bt, bt = wr.heap.size := ⟨_, rfl⟩
   rw [← hbt] at HT6 ⊢
   obtain ⟨w7, r7, m7, f7⟩ := MapT.put (w := w6) (HM6.out.move rfl) (by omega) hk o1 b0 d0
   replace r7 : (Instr.mapUpdate 106 (.map (some bm)) (.int .i64 k) (.agg #[.int .i64 o1, .int .i64 b0, .int .i64 d0])).run Try.prog w6 = .ok () w7 := r7
   have HB7 : Aside0 (Below w3.heap.size w3 w7) := ⟨HB6.out.trans (f7.below HB6.out.size (fun k hk => by have := HBM.out; omega))⟩
   have HM7 := Aside0.mk m7
   clear hbt m7 f7 HM6
   have z0 : w6.cell? ⟨bt, 0, none⟩ = some (.int .i64 o1) := heap_cell HT6.out rfl
   have z1 : w6.cell? ⟨bt, 1, none⟩ = some (.int .i64 b0) := heap_cell HT6.out rfl
   have z2 : w6.cell? ⟨bt, 2, none⟩ = some (.int .i64 d0) := heap_cell HT6.out rfl
   go_wp2_with fail
   go_roundw
   case rel =>
    have e := HM7.out
    rw [HAB.out.2.1, HAB.out.2.2, up_self, up_self, HO1.out, HAB.out.1, HUP.out, HKD.out, ← take_snoc og hlt2] at e
    exact ⟨i + 1, by go_num, by omega, ⟨e⟩, HB7⟩
   case measure => simp [intOf]; omega
  ·obtain rfl : i = N := by omega
   clear hlt hi
   have hM1 : MapT wr bm (i + 0) og (cntTo og i) (cntTo ke 0) (cntTo kf 0) := by
    have e := HM.out
    rw [HN.out, List.take_length] at e
    rw [HN.out]
    exact e
   have HM1 := Aside0.mk hM1
   have x1 : wr.cell? ⟨bg, 1, none⟩ = some (.slice A m c0) := heap_cell ((HB.out.block _ (lt_of HX3.out)).trans HX3.out) rfl
   have HB4 := HB
   clear hM1 HM HB
   go_wp2_with fail
   clear x1
   go_loopw [61] (fun y wr => ∃ (j : Nat), y = .int .i64 (j : Int) ∧ j ≤ m ∧ Aside0 (MapT wr bm (i + j) og (cntTo og i) (cntTo ke j) (cntTo kf 0)) ∧ Aside0 (Below w3.heap.size w3 wr)) (fun y _ => m - (intOf y).toNat)
   case atStart => exact ⟨0, rfl, by omega, HM1, HB4⟩
   case round =>
    clear HM1 HB4
    obtain ⟨j, rfl, hj, HM, HB⟩ := hrel
    have hmb : m ≤ 4194304 := by rw [HME.out]; exact HFIT.out.he
    by_cases hlt : j < m
    ·have hlt2 : j < es.length := by rw [← HME.out]; exact hlt
     obtain ⟨ad, eA, h1, h2⟩ := (HE3.out.below HB.out) j hlt2
     subst eA
     have hed := HFIT.out.edge j hlt2
     have hgk := gi_ksE og es hlt2
     have hup := cntTo_succ ke (i := j) (by rw [HKE.out, ksE, List.length_map]; exact hlt2)
     rw [HKE.out, hgk, ← HKE.out] at hup
     obtain ⟨x, hx⟩ : ∃ x : Nat, (pe es j).1 = (x : Int) := ⟨(pe es j).1.toNat, by omega⟩
     obtain ⟨y, hy⟩ : ∃ y, y = (pe es j).2 := ⟨_, rfl⟩
     rw [hx] at h1 hed hup
     rw [← hy] at h2
     rw [Int.toNat_natCast] at hup
     obtain ⟨ado, eO, hxo⟩ := Kd.at_int (Kd.C_below HO3.out HB.out) (x : Int) (by omega) (by omega)
     subst eO
     rw [gi_rd, Int.toNat_natCast] at hxo
     have hxl : x < og.length := by omega
     have hmem := gi_mem hxl
     have hkk := (HFIT.out.key _).1 hmem
     have hcc := HFIT.out.hc
     have hk : InI (gi og x) := ⟨by omega, by omega⟩
     obtain ⟨k, hkd⟩ : ∃ k, k = gi og x := ⟨_, rfl⟩
     rw [← hkd] at hxo hk hup hmem
     have HUP := Aside0.mk hup
     have HKS := Aside0.mk hmem
     have HXL : Aside0 (x < i) := ⟨by rw [HN.out]; exact hxl⟩
     obtain ⟨w5, hw5⟩ : ∃ w5, w5 = wr.alloc (.cells #[.int .i64 (x : Int), .int .i64 y] 41 (0, 0)) := ⟨_, rfl⟩
     have hb5 : Below wr.heap.size wr w5 := by rw [hw5]; exact (Below.refl _ _).alloc (Nat.le_refl _) _
     have HT5 : Aside0 (w5.heap[wr.heap.size]? = some (.cells #[.int .i64 (x : Int), .int .i64 y] 41 (0, 0))) := ⟨by rw [hw5]; exact heap_last _ _⟩
     have HB5 := Aside0.mk (HB.out.trans (hb5.mono HB.out.size))
     have HM5 := Aside0.mk (HM.out.move (hb5.block _ HM.out.lt))
     have HBE : Aside0 (wr.heap.size < w5.heap.size ∧ bm < wr.heap.size) := ⟨lt_of HT5.out, HM.out.lt⟩
     have hol := HN.out
     have hkl : ke.length ≤ 4194304 := by rw [HKE.out, ksE, List.length_map]; exact HFIT.out.he
     have hxo0 := hxo
     have HH5 := Aside0.mk hw5
     clear hw5 hkd hkk hup hcc HM HB hed hmem hgk hx hy
     go_upto_region 16 with (fail)
     have hw5 := HH5.out
     rw [← hw5]
     have hxo := (hb5.cell (cell_lt hxo0)).trans hxo0
     have HXO := Aside0.mk hxo
     obtain ⟨be, hbe⟩ : ∃ be, be = wr.heap.size := ⟨_, rfl⟩
     rw [← hbe] at HT5 HBE ⊢
     have v0 : w5.cell? ⟨be, 0, none⟩ = some (.int .i64 (x : Int)) := heap_cell HT5.out rfl
     clear hw5 HH5 hbe hb5 h1 h2 hxo0
     have la := HM5.out.get hk
     obtain ⟨a0, ha0⟩ : ∃ a0, a0 = (cntTo og i) k := ⟨_, rfl⟩
     obtain ⟨b0, hb0⟩ : ∃ b0, b0 = (cntTo ke j) k := ⟨_, rfl⟩
     obtain ⟨d0, hd0⟩ : ∃ d0, d0 = (cntTo kf 0) k := ⟨_, rfl⟩
     rw [← ha0, ← hb0, ← hd0] at la
     replace la : (Instr.lookup 106 (.map (some bm)) (.int .i64 k) false).run Try.prog w5 = .ok (.agg #[.int .i64 a0, .int .i64 b0, .int .i64 d0]) w5 := la
     have HAB : Aside0 (a0 = (cntTo og i) k ∧ b0 = (cntTo ke j) k ∧ d0 = (cntTo kf 0) k) := ⟨ha0, hb0, hd0⟩
     have u0 : (w5.alloc (.cells #[.int .i64 a0, .int .i64 b0, .int .i64 d0] 108 (0, 0))).cell? ⟨w5.heap.size, 1, none⟩ = some (.int .i64 b0) := heap_cell (heap_last _ _) rfl
     have u3 : (w5.alloc (.cells #[.int .i64 a0, .int .i64 b0, .int .i64 d0] 108 (0, 0))).frozen? ⟨w5.heap.size, 1, none⟩ = false := heap_free (heap_last _ _) _
     obtain ⟨o1, ho1⟩ : ∃ o1, o1 = b0 + 1 := ⟨_, rfl⟩
     have q1 : IntKind.i64.wrap (b0 + 1) = o1 := by rw [ho1]; exact IntWalk.i64_in _ (by rw [hb0]; have := cntTo_le ke j k; omega)
     have HO1 := Aside0.mk ho1
     clear ha0 hb0 hd0 ho1
     go_upto_region 18 with (fail)
     clear u0 u3 q1
     have HT6 := Aside0.mk (heap_last w5 (.cells #[.int .i64 a0, .int .i64 o1, .int .i64 d0] 108 (0, 0)))
     have hb6 : Below w5.heap.size w5 (w5.alloc (.cells #[.int .i64 a0, .int .i64 o1, .int .i64 d0] 108 (0, 0))) := (Below.refl _ _).alloc (Nat.le_refl _) _
     have HB6 := Aside0.mk (HB5.out.trans (hb6.mono HB5.out.size))
     have HM6 := Aside0.mk (HM5.out.move (hb6.block _ HM5.out.lt))
     have HBE6 : Aside0 ((w5.alloc (.cells #[.int .i64 a0, .int .i64 o1, .int .i64 d0] 108 (0, 0))).heap[be]? = some (.cells #[.int .i64 (x : Int), .int .i64 y] 41 (0, 0))) := ⟨heap_old HT5.out _⟩
     have HXO6 : Aside0 ((w5.alloc (.cells #[.int .i64 a0, .int .i64 o1, .int .i64 d0] 108 (0, 0))).cell? (ado.add x) = some (.int .i64 k)) := ⟨(hb6.cell (cell_lt HXO.out)).trans HXO.out⟩
     clear hb6 la
     generalize w5.alloc (.cells #[.int .i64 a0, .int .i64 o1, .int .i64 d0] 108 (0, 0)) = w6 at HBE6 HXO6 HT6 HB6 HM6 ⊢
     obtain ⟨bt, hbt⟩ : ∃ bt, bt = w5.heap.size := ⟨_, rfl⟩
     rw [← hbt] at HT6 ⊢
     obtain ⟨w7, r7, m7, f7⟩ := MapT.put (w := w6.drew) (HM6.out.move rfl) (by omega) hk a0 o1 d0
     replace r7 : (Instr.mapUpdate 106 (.map (some bm)) (.int .i64 k) (.agg #[.int .i64 a0, .int .i64 o1, .int .i64 d0])).run Try.prog w6.drew = .ok () w7 := r7
     have HB7 : Aside0 (Below w3.heap.size w3 w7) := ⟨HB6.out.drew.trans (f7.below HB6.out.size (fun k hk => by have := HBM.out; omega))⟩
     have HM7 := Aside0.mk m7
     clear hbt m7 f7 HM6
     have E0 : Aside0 (w6.drew.cell? ⟨be, 0, none⟩ = some (.int .i64 (x : Int))) := ⟨heap_cell (w := w6) HBE6.out rfl⟩
     have E1 : Aside0 (w6.drew.cell? (ado.add x) = some (.int .i64 k)) := ⟨HXO6.out⟩
     have E2 : Aside0 (w6.drew.cell? ⟨bt, 0, none⟩ = some (.int .i64 a0)) := ⟨heap_cell (w := w6) HT6.out rfl⟩
     have E3 : Aside0 (w6.drew.cell? ⟨bt, 1, none⟩ = some (.int .i64 o1)) := ⟨heap_cell (w := w6) HT6.out rfl⟩
     have E4 : Aside0 (w6.drew.cell? ⟨bt, 2, none⟩ = some (.int .i64 d0)) := ⟨heap_cell (w := w6) HT6.out rfl⟩
     clear HT6 HBE6 HXO6 HB6 v0 hxo
     have hxi := HXL.out
     refine start_ (n := 8) (S := fun w' => w'.cell? ⟨be, 0, none⟩ = some (.int .i64 (x : Int)) ∧ w'.cell? (ado.add x) = some (.int .i64 k) ∧ w'.cell? ⟨bt, 0, none⟩ = some (.int .i64 a0) ∧ w'.cell? ⟨bt, 1, none⟩ = some (.int .i64 o1) ∧ w'.cell? ⟨bt, 2, none⟩ = some (.int .i64 d0)) (ds := [7]) (bm9 8 0) (by kernel_rfl) rfl rfl ⟨E0.out, E1.out, E2.out, E3.out, E4.out⟩ (fun hHeld => ?_)
     refine pu9 0 76 (bm9 8 1) ?_
     refine pu9 1 77 (bm9 8 3) ?_
     refine pu9 2 78 (bm9 8 7) ?_
     refine tk59 3 79 (bm9 8 15) hHeld ?_
     refine pu9 4 80 (bm9 8 31) ?_
     refine tk59 5 81 (bm9 8 63) hHeld ?_
     refine tk59 6 82 (bm9 8 127) hHeld ?_
     refine last_ (i := 7) (N := none) (bm9 8 255) rfl rfl (by kernel_rfl) (by decide) (fun K hK => ?_)
     refine skip_ (w1 := ?_) (by rfl) rfl ?_ ?_
     rotate_left
     ·go_simp
      rfl
     refine hK.out _ _ ?_
     clear hK K
     refine done_ (by kernel_rfl) ?_
     clear r7
     go_wp2_with fail
     go_roundw
     case rel =>
      have e := HM7.out
      rw [HAB.out.1, HAB.out.2.2, up_self, up_self, HO1.out, HAB.out.2.1, HUP.out] at e
      exact ⟨j + 1, by go_num, by omega, ⟨e.same (mem_snoc HKS.out)⟩, HB7⟩
     case measure => simp [intOf]; omega
    ·obtain rfl : j = m := by omega
     clear hlt hj
     have hM2 : MapT wr bm (i + j + 0) og (cntTo og i) (cntTo ke j) (cntTo kf 0) := HM.out
     have HM2 := Aside0.mk hM2
     have HB4 := HB
     obtain ⟨L, hL⟩ : ∃ L, L = fs.length := ⟨_, rfl⟩
     have HL := Aside0.mk hL
     have hLb : L ≤ 8388608 := by rw [hL]; exact HFIT.out.hf
     rw [← hL]
     clear hM2 HM HB hL
     go_wp2_with fail
     go_loopw [86] (fun y wr => ∃ (q : Nat), y = .int .i64 (q : Int) ∧ q ≤ L ∧ Aside0 (MapT wr bm (i + j + q) og (cntTo og i) (cntTo ke j) (cntTo kf q)) ∧ Aside0 (Below w3.heap.size w3 wr)) (fun y _ => L - (intOf y).toNat)
     case atStart => exact ⟨0, rfl, by omega, HM2, HB4⟩
     case round =>
      clear HM2 HB4
      obtain ⟨q, rfl, hq, HM, HB⟩ := hrel
      have hmb : j ≤ 4194304 := by rw [HME.out]; exact HFIT.out.he
      by_cases hlt : q < L
      ·have hlt2 : q < fs.length := by rw [← HL.out]; exact hlt
       obtain ⟨ad, B, cB, eA, hx, hcB, hrow⟩ := row_at (Kd.C_below HF3.out HB.out) hlt2
       subst eA
       obtain ⟨f1, f2, f3⟩ := HFIT.out.face q hlt2
       have hgk := gi_ksF og es fs hlt2
       have hup := cntTo_succ kf (i := q) (by rw [HKF.out, ksF, List.length_map]; exact hlt2)
       rw [HKF.out, hgk, ← HKF.out] at hup
       obtain ⟨face, hface⟩ : ∃ face, face = gl fs q := ⟨_, rfl⟩
       rw [← hface] at hx hcB hrow f1 f2 f3 hup
       obtain ⟨h, hh⟩ : ∃ h : Nat, gi face 0 = (h : Int) := ⟨(gi face 0).toNat, by omega⟩
       obtain ⟨adB, eB, h0⟩ := Kd.at_int hrow 0 (by omega) (by omega)
       subst eB
       rw [show (0 : Int) = ((0 : Nat) : Int) from rfl, gi_rd, Int.toNat_natCast, hh, Addr.add_zero'] at h0
       rw [hh] at f3 hup
       rw [Int.toNat_natCast] at hup
       obtain ⟨ei, hei⟩ : ∃ ei, ei = h / 2 := ⟨_, rfl⟩
       rw [← hei] at hup
       have hel : ei < es.length := by omega
       have q5 : Int.tdiv (h : Int) 2 = (ei : Int) := by rw [hei]; rfl
       have q6 : IntKind.i64.wrap (ei : Int) = (ei : Int) := IntWalk.i64_in _ (by have := HFIT.out.he; omega)
       obtain ⟨ade, eE, h1, h2⟩ := (HE3.out.below HB.out) ei hel
       subst eE
       have hed := HFIT.out.edge ei hel
       obtain ⟨x, hx1⟩ : ∃ x : Nat, (pe es ei).1 = (x : Int) := ⟨(pe es ei).1.toNat, by omega⟩
       rw [hx1] at h1 hed hup
       rw [Int.toNat_natCast] at hup
       obtain ⟨ado, eO, hxo⟩ := Kd.at_int (Kd.C_below HO3.out HB.out) (x : Int) (by omega) (by omega)
       subst eO
       rw [gi_rd, Int.toNat_natCast] at hxo
       have hxl : x < og.length := by omega
       have hmem := gi_mem hxl
       have hkk := (HFIT.out.key _).1 hmem
       have hcc := HFIT.out.hc
       have hk : InI (gi og x) := ⟨by omega, by omega⟩
       obtain ⟨k, hkd⟩ : ∃ k, k = gi og x := ⟨_, rfl⟩
       rw [← hkd] at hxo hk hup hmem
       have HUP := Aside0.mk hup
       have HKS := Aside0.mk hmem
       have hxi : x < i := by rw [HN.out]; exact hxl
       have hej : ei < j := by rw [HME.out]; exact hel
       have hfl : 0 < face.length := f1
       have x1 : wr.cell? ⟨bg, 1, none⟩ = some (.slice (some ade) j c0) := heap_cell ((HB.out.block _ (lt_of HX3.out)).trans HX3.out) rfl
       have hol := HN.out
       have hkl : kf.length ≤ 8388608 := by rw [HKF.out, ksF, List.length_map]; exact HFIT.out.hf
       have HOL := Aside0.mk hol
       clear hkd hkk hup hcc hed hmem hgk hx1 h2 hface hh hei f1 f2 f3 hrow hol
       go_wp2_with fail
       go_quiet (fail)
       have HM5 : Aside0 (MapT (wr.drewN nq) bm (i + j + q) og (cntTo og i) (cntTo ke j) (cntTo kf q)) := ⟨HM.out.move rfl⟩
       have HB5 : Aside0 (Below w3.heap.size w3 (wr.drewN nq)) := ⟨⟨HB.out.os, HB.out.tape, HB.out.output, HB.out.size, HB.out.block⟩⟩
       clear hx h0 h1 hxo q5 q6 x1 HM HB
       generalize wr.drewN nq = w5 at HM5 HB5 ⊢
       have la := HM5.out.get hk
       obtain ⟨a0, ha0⟩ : ∃ a0, a0 = (cntTo og i) k := ⟨_, rfl⟩
       obtain ⟨b0, hb0⟩ : ∃ b0, b0 = (cntTo ke j) k := ⟨_, rfl⟩
       obtain ⟨d0, hd0⟩ : ∃ d0, d0 = (cntTo kf q) k := ⟨_, rfl⟩
       rw [← ha0, ← hb0, ← hd0] at la
       replace la : (Instr.lookup 106 (.map (some bm)) (.int .i64 k) false).run Try.prog w5 = .ok (.agg #[.int .i64 a0, .int .i64 b0, .int .i64 d0]) w5 := la
       have HAB : Aside0 (a0 = (cntTo og i) k ∧ b0 = (cntTo ke j) k ∧ d0 = (cntTo kf q) k) := ⟨ha0, hb0, hd0⟩
       have u0 : (w5.alloc (.cells #[.int .i64 a0, .int .i64 b0, .int .i64 d0] 108 (0, 0))).cell? ⟨w5.heap.size, 2, none⟩ = some (.int .i64 d0) := heap_cell (heap_last _ _) rfl
       have u3 : (w5.alloc (.cells #[.int .i64 a0, .int .i64 b0, .int .i64 d0] 108 (0, 0))).frozen? ⟨w5.heap.size, 2, none⟩ = false := heap_free (heap_last _ _) _
       obtain ⟨o1, ho1⟩ : ∃ o1, o1 = d0 + 1 := ⟨_, rfl⟩
       have q1 : IntKind.i64.wrap (d0 + 1) = o1 := by rw [ho1]; exact IntWalk.i64_in _ (by rw [hd0]; have := cntTo_le kf q k; omega)
       have HO1 := Aside0.mk ho1
       clear ha0 hb0 hd0 ho1
       go_upto_region 26 with (fail)
       clear u0 u3 q1
       have HT6 := Aside0.mk (heap_last w5 (.cells #[.int .i64 a0, .int .i64 b0, .int .i64 o1] 108 (0, 0)))
       have hb6 : Below w5.heap.size w5 (w5.alloc (.cells #[.int .i64 a0, .int .i64 b0, .int .i64 o1] 108 (0, 0))) := (Below.refl _ _).alloc (Nat.le_refl _) _
       have HB6 := Aside0.mk (HB5.out.trans (hb6.mono HB5.out.size))
       have HM6 := Aside0.mk (HM5.out.move (hb6.block _ HM5.out.lt))
       clear hb6 la
       generalize w5.alloc (.cells #[.int .i64 a0, .int .i64 b0, .int .i64 o1] 108 (0, 0)) = w6 at HT6 HT6 HB6 HM6 ⊢
       obtain ⟨bt, hbt⟩ : ∃ bt, bt = w5.heap.size := ⟨_, rfl⟩
       rw [← hbt] at HT6 ⊢
       obtain ⟨w7, r7, m7, f7⟩ := MapT.put (w := w6) (HM6.out.move rfl) (by omega) hk a0 b0 o1
       replace r7 : (Instr.mapUpdate 106 (.map (some bm)) (.int .i64 k) (.agg #[.int .i64 a0, .int .i64 b0, .int .i64 o1])).run Try.prog w6 = .ok () w7 := r7
       have HB7 : Aside0 (Below w3.heap.size w3 w7) := ⟨HB6.out.trans (f7.below HB6.out.size (fun k hk => by have := HBM.out; omega))⟩
       have HM7 := Aside0.mk m7
       clear hbt m7 f7 HM6
       have z0 : w6.cell? ⟨bt, 0, none⟩ = some (.int .i64 a0) := heap_cell HT6.out rfl
       have z1 : w6.cell? ⟨bt, 1, none⟩ = some (.int .i64 b0) := heap_cell HT6.out rfl
       have z2 : w6.cell? ⟨bt, 2, none⟩ = some (.int .i64 o1) := heap_cell HT6.out rfl
       go_wp2_with fail
       go_roundw
       case rel =>
        have e := HM7.out
        rw [HAB.out.1, HAB.out.2.1, up_self, up_self, HO1.out, HAB.out.2.2, HUP.out] at e
        exact ⟨q + 1, by go_num, by omega, ⟨e.same (mem_snoc HKS.out)⟩, HB7⟩
       case measure => simp [intOf]; omega
      ·obtain rfl : q = L := by omega
       clear hlt hq hmb
       obtain ⟨ms, clock, hbk, hst, hsz, hent, hsum⟩ := HM.out.entries
       have hrg := run_range_map (P := Try.prog) wr 106 3 108 bm ms clock Try.underlying106 hbk
       have hrl : bm < wr.heap.size := HM.out.lt
       obtain ⟨G, hG⟩ : ∃ G : Int → Int, G = fun k => term (cntTo og i k) (cntTo ke j k) (cntTo kf q k) := ⟨_, rfl⟩
       have HTOT : Aside0 ((ms.toList.map fun x => G (valOf x.key)).sum = genusSum og es fs c) := ⟨by
        rw [hsum G c HFIT.out.key, hG]
        unfold genusSum
        rw [← HKE.out, ← HKF.out, ← HN.out, ← HME.out, ← HL.out]⟩
       have HGE : Aside0 (∀ k, G k = term (cntTo og i k) (cntTo ke j k) (cntTo kf q k)) := ⟨fun k => by rw [hG]⟩
       have HENT := Aside0.mk hent
       have HST := Aside0.mk hst
       have HSZ := Aside0.mk hsz
       have HLEN : Aside0 (og.length = i ∧ ke.length = j ∧ kf.length = q ∧ i ≤ 1048576 ∧ j ≤ 4194304 ∧ q ≤ 8388608) := ⟨HN.out.symm, by rw [HKE.out, ksE, List.length_map, HME.out], by rw [HKF.out, ksF, List.length_map, HL.out], hNb, by rw [HME.out]; exact HFIT.out.he, hLb⟩
       have HGB : Aside0 (∀ k, (0 ≤ cntTo og i k ∧ cntTo og i k ≤ 9000000) ∧ (0 ≤ cntTo ke j k ∧ cntTo ke j k ≤ 9000000) ∧ (0 ≤ cntTo kf q k ∧ cntTo kf q k ≤ 9000000)) := ⟨fun k => by
        have h1 := cntTo_le og i k
        have h2 := cntTo_le ke j k
        have h3 := cntTo_le kf q k
        have := HLEN.out
        omega⟩
       have HSB : Aside0 (∀ seen, -400000000000000 ≤ seenG (fun x => G (valOf x.key)) ms.toList seen ∧ seenG (fun x => G (valOf x.key)) ms.toList seen ≤ 400000000000000) := ⟨fun seen => by
        have h1 := seenG_bound (fun x => G (valOf x.key)) seen 20000000 ms.toList (fun x _ => by
         have := HGB.out (valOf x.key)
         show _ ≤ G (valOf x.key) ∧ G (valOf x.key) ≤ _
         rw [HGE.out]
         exact term_bound this.1 this.2.1 this.2.2)
        have h2 : ms.toList.length ≤ 13631488 := by
         have := HSZ.out
         have := HLEN.out
         rw [Array.length_toList]; omega
        have h3 : ms.toList.length * 20000000 ≤ 13631488 * 20000000 := Nat.mul_le_mul_right _ h2
        omega⟩
       have HMP5 : Aside0 ((wr.alloc (.mapIter (some bm) clock #[] clock)).heap[bm]? = some (.map ms clock)) := ⟨heap_old hbk _⟩
       have HIT5 : Aside0 ((wr.alloc (.mapIter (some bm) clock #[] clock)).heap[wr.heap.size]? = some (.mapIter (some bm) clock #[] clock)) := ⟨heap_last _ _⟩
       have HB5 := Aside0.mk (HB.out.alloc HB.out.size (.mapIter (some bm) clock #[] clock))
       have HRL : Aside0 (w3.heap.size ≤ wr.heap.size ∧ bm ≠ wr.heap.size) := ⟨HB.out.size, by omega⟩
       have HIS5 : Aside0 (seenG (fun x => G (valOf x.key)) ms.toList #[] = 0) := ⟨seenG_none _ _⟩
       clear hG hent hst hsz hsum HM HB hbk hrl
       go_wp2_with fail
       generalize wr.alloc (.mapIter (some bm) clock #[] clock) = w5 at HMP5 HIT5 HB5 ⊢
       obtain ⟨r, hr⟩ : ∃ r, r = wr.heap.size := ⟨_, rfl⟩
       rw [← hr] at HIT5 HRL ⊢
       clear hr hrg
       go_loopw [22] (fun s wr => ∃ (seen : Array Nat) (c1 : Nat), s = .int .i64 (seenG (fun x => G (valOf x.key)) ms.toList seen) ∧ clock ≤ c1 ∧ Aside0 (wr.heap[r]? = some (.mapIter (some bm) clock seen c1)) ∧ Aside0 (wr.heap[bm]? = some (.map ms clock)) ∧ Aside0 (Below w3.heap.size w3 wr)) (fun _ wr => (leftOf ms (wr.iterSeen r)).size)
       case atStart => exact ⟨#[], clock, by rw [HIS5.out], Nat.le_refl _, HIT5, HMP5, HB5⟩
       case round =>
        clear HIS5 HIT5 HMP5 HB5
        obtain ⟨seen, c1, rfl, hc1, HIT, HMP, HB⟩ := hrel
        obtain ⟨sv, hsv⟩ : ∃ sv, sv = seenG (fun x => G (valOf x.key)) ms.toList seen := ⟨_, rfl⟩
        rw [← hsv]
        have HSV := Aside0.mk hsv
        have hsb := HSB.out seen
        rw [← hsv] at hsb
        clear hsv
        have law := run_next_at (P := Try.prog) wr 0 r bm clock c1 seen ms clock HIT.out HMP.out HST.out.1 hc1
        rcases law with ⟨h0, hrun⟩ | ⟨e, he, w1, hw1, hrun⟩
        ·have hnx : ∀ ty, (Instr.next (.pointer (some ⟨r, 0, none⟩)) false ty).run Try.prog wr = _ := fun _ => hrun
         have hfin : sv = genusSum og es fs c := by rw [HSV.out, seenG_all _ _ _ h0, HTOT.out]
         have HFIN := Aside0.mk hfin
         have HBF := Aside0.mk (HB3.out.trans (HB.out.mono HB3.out.size))
         clear hfin h0 hrun
         go_wp2_with fail
         go_ret2
         exact ⟨by rw [HFIN.out]; rfl, HBF.out⟩
        ·obtain ⟨k, hkS, hkey, hval⟩ := HENT.out e (mem_left he).1
         have hgk := HGE.out k
         have hbb := HGB.out k
         obtain ⟨a, ha⟩ : ∃ a, a = cntTo og i k := ⟨_, rfl⟩
         obtain ⟨b, hb⟩ : ∃ b, b = cntTo ke j k := ⟨_, rfl⟩
         obtain ⟨d, hd⟩ : ∃ d, d = cntTo kf q k := ⟨_, rfl⟩
         rw [← ha, ← hb, ← hd] at hval hgk hbb
         replace hval : e.val = .agg #[.int .i64 a, .int .i64 b, .int .i64 d] := hval
         have hpush := seenG_push (fun x => G (valOf x.key)) seen e (mem_left he).2 ms.toList HST.out.2.1 (mem_left he).1
         rw [← HSV.out] at hpush
         have hsb2 := HSB.out (seen.push e.born)
         rw [hpush] at hsb2
         have hke : G (valOf e.key) = term a b d := by rw [hkey]; exact hgk
         simp only [hke] at hpush hsb2
         have hshr := left_shrinks ms seen e he
         have hr1 : w1.heap = wr.heap := by rcases hw1 with rfl | rfl <;> rfl
         have hrlt : r < w1.heap.size := by rw [hr1]; exact lt_of HIT.out
         have hIT5 : (setBlock w1 r (.mapIter (some bm) clock (seen.push e.born) clock)).heap[r]? = some (.mapIter (some bm) clock (seen.push e.born) clock) := by unfold setBlock; simp only; rw [Array.getElem?_setIfInBounds, if_pos rfl, if_pos hrlt]
         have hMP5 : (setBlock w1 r (.mapIter (some bm) clock (seen.push e.born) clock)).heap[bm]? = some (.map ms clock) := by
          unfold setBlock
          simp only
          rw [Array.getElem?_setIfInBounds, if_neg (fun e => HRL.out.2 e.symm), hr1]
          exact HMP.out
         have hB5 : Below w3.heap.size w3 (setBlock w1 r (.mapIter (some bm) clock (seen.push e.born) clock)) := by
          have hB1 : Below w3.heap.size w3 w1 := by
           rcases hw1 with rfl | rfl
           ·exact HB.out
           ·exact HB.out.drew
          exact hB1.trans (setBlock_below HRL.out.1)
         rw [hkey, hval] at hrun
         have hnx : ∀ ty, (Instr.next (.pointer (some ⟨r, 0, none⟩)) false ty).run Try.prog wr = _ := fun _ => hrun
         have hen := run_entry_at (P := Try.prog) _ r bm clock seen ms clock e hIT5 hMP5 (mem_left he).1 HST.out.2.1
         rw [hkey, hval] at hen
         have HIT5 := Aside0.mk hIT5
         have HMP5 := Aside0.mk hMP5
         have HB5 := Aside0.mk hB5
         have HPU := Aside0.mk hpush
         have HSH : Aside0 ((leftOf ms (seen.push e.born)).size < (leftOf ms (wr.iterSeen r)).size) := ⟨by
          have : wr.iterSeen r = seen := by unfold World.iterSeen; rw [HIT.out]
          rw [this]; exact hshr⟩
         obtain ⟨sn, hsn⟩ : ∃ sn, sn = seen.push e.born := ⟨_, rfl⟩
         rw [← hsn] at hnx hen HIT5 HMP5 HB5 HPU HSH
         clear hsn hIT5 hMP5 hB5 hpush hshr hrun hkey hval hke he hw1 hr1 hrlt HIT HMP HB hgk ha hb hd hkS HSV
         generalize setBlock w1 r (.mapIter (some bm) clock sn clock) = w5 at hnx hen HIT5 HMP5 HB5
         have HIT6 := Aside0.mk (heap_old HIT5.out (.cells #[.int .i64 a, .int .i64 b, .int .i64 d] 108 (0, 0)))
         have HMP6 := Aside0.mk (heap_old HMP5.out (.cells #[.int .i64 a, .int .i64 b, .int .i64 d] 108 (0, 0)))
         have HB6 := Aside0.mk (HB5.out.alloc HB5.out.size (.cells #[.int .i64 a, .int .i64 b, .int .i64 d] 108 (0, 0)))
         have u0 : (w5.alloc (.cells #[.int .i64 a, .int .i64 b, .int .i64 d] 108 (0, 0))).cell? ⟨w5.heap.size, 0, none⟩ = some (.int .i64 a) := heap_cell (heap_last _ _) rfl
         have u1 : (w5.alloc (.cells #[.int .i64 a, .int .i64 b, .int .i64 d] 108 (0, 0))).cell? ⟨w5.heap.size, 1, none⟩ = some (.int .i64 b) := heap_cell (heap_last _ _) rfl
         have u2 : (w5.alloc (.cells #[.int .i64 a, .int .i64 b, .int .i64 d] 108 (0, 0))).cell? ⟨w5.heap.size, 2, none⟩ = some (.int .i64 d) := heap_cell (heap_last _ _) rfl
         by_cases hb0 : b > 0
         ·have t1 : decide (b > 0) = true := decide_eq_true hb0
          have hterm : term a b d = Int.tdiv (2 - a + b - d) 2 := by unfold term; rw [if_pos hb0]
          rw [hterm] at HPU hsb2
          obtain ⟨p1, hp1⟩ : ∃ p1, p1 = 2 - a := ⟨_, rfl⟩
          obtain ⟨p2, hp2⟩ : ∃ p2, p2 = p1 + b := ⟨_, rfl⟩
          obtain ⟨p3, hp3⟩ : ∃ p3, p3 = p2 - d := ⟨_, rfl⟩
          obtain ⟨p4, hp4⟩ : ∃ p4, p4 = Int.tdiv p3 2 := ⟨_, rfl⟩
          obtain ⟨p5, hp5⟩ : ∃ p5, p5 = sv + p4 := ⟨_, rfl⟩
          rw [← hp1, ← hp2, ← hp3, ← hp4, ← hp5] at HPU hsb2
          have hb4 : -20000000 ≤ p4 ∧ p4 ≤ 20000000 := by rw [hp4, tdiv2]; split <;> omega
          have q1 : IntKind.i64.wrap (2 - a) = p1 := by rw [← hp1]; exact IntWalk.i64_in _ (by omega)
          have q2 : IntKind.i64.wrap (p1 + b) = p2 := by rw [← hp2]; exact IntWalk.i64_in _ (by omega)
          have q3 : IntKind.i64.wrap (p2 - d) = p3 := by rw [← hp3]; exact IntWalk.i64_in _ (by omega)
          have q4 : Int.tdiv p3 2 = p4 := hp4.symm
          have q4' : IntKind.i64.wrap p4 = p4 := IntWalk.i64_in _ (by omega)
          have q5 : IntKind.i64.wrap (sv + p4) = p5 := by rw [← hp5]; exact IntWalk.i64_in _ (by omega)
          clear hp1 hp2 hp3 hp4 hp5 hb4 hterm hb0 hsb hsb2 hbb
          go_wp2_with fail
          clear q1 q2 q3 q4 q4' q5 t1
          go_roundw
          case rel => exact ⟨sn, clock, by rw [HPU.out], Nat.le_refl _, HIT6, HMP6, HB6⟩
          case measure =>
           have : (w5.alloc (.cells #[.int .i64 a, .int .i64 b, .int .i64 d] 108 (0, 0))).iterSeen r = sn := by unfold World.iterSeen; rw [HIT6.out]
           rw [this]; exact HSH.out
         ·have t1 : decide (b > 0) = false := decide_eq_false hb0
          have hterm : term a b d = 0 := by unfold term; rw [if_neg hb0]
          rw [hterm] at HPU
          have HPU2 : Aside0 (seenG (fun x => G (valOf x.key)) ms.toList sn = sv) := ⟨by have := HPU.out; omega⟩
          clear hterm hb0 hsb hsb2 hbb HPU
          go_wp2_with fail
          clear t1
          go_roundw
          case rel => exact ⟨sn, clock, by rw [HPU2.out], Nat.le_refl _, HIT6, HMP6, HB6⟩
          case measure =>
           have : (w5.alloc (.cells #[.int .i64 a, .int .i64 b, .int .i64 d] 108 (0, 0))).iterSeen r = sn := by unfold World.iterSeen; rw [HIT6.out]
           rw [this]; exact HSH.out
def fitB (og : List Int) (es : List (Int × Int)) (fs : List (List Int)) (c : Nat) : Bool :=
 decide (c ≤ 1048576) && (decide (og.length ≤ 1048576) && (decide (es.length ≤ 4194304) && (decide (fs.length ≤ 8388608) && (og.all (fun x => decide (0 ≤ x ∧ x < (c : Int))) && ((List.range c).all (fun k => og.contains (k : Int)) &&
  (es.all (fun e => decide (0 ≤ e.1 ∧ e.1 < (og.length : Int))) && fs.all fun f => decide (0 < f.length ∧ 0 ≤ gi f 0 ∧ gi f 0 < ((2 * es.length : Nat) : Int))))))))
theorem fit_of {og : List Int} {es : List (Int × Int)} {fs : List (List Int)} {c : Nat} : fitB og es fs c = true ↔ Fit og es fs c := by
 unfold fitB
 simp only [Bool.and_eq_true, decide_eq_true_eq, List.all_eq_true, List.mem_range, List.contains_iff_mem]
 constructor
 ·rintro ⟨h1, h2, h3, h4, h5, h6, h7, h8⟩
  refine ⟨h1, h2, h3, h4, fun k => ⟨h5 k, fun h => ?_⟩, fun j hj => ?_, fun q hq => ?_⟩
  ·obtain ⟨n, rfl⟩ := Int.eq_ofNat_of_zero_le h.1
   exact h6 n (by omega)
  ·have := h7 _ (List.mem_of_getElem? (pe_of hj))
   exact this
  ·have := h8 _ (List.mem_of_getElem? (gl_of hq))
   exact this
 ·intro h
  refine ⟨h.hc, h.ho, h.he, h.hf, fun x hx => (h.key x).1 hx, fun k hk => (h.key k).2 (by omega), fun e he => ?_, fun f hf => ?_⟩
  ·obtain ⟨i, hi, rfl⟩ := List.getElem_of_mem he
   have := h.edge i hi
   have e : pe es i = es[i] := by unfold pe; rw [List.getD_eq_getElem?_getD, List.getElem?_eq_getElem hi]; rfl
   rw [e] at this
   exact this
  ·obtain ⟨i, hi, rfl⟩ := List.getElem_of_mem hf
   have := h.face i hi
   have e : gl fs i = fs[i] := by unfold gl; rw [List.getD_eq_getElem?_getD, List.getElem?_eq_getElem hi]; rfl
   rw [e] at this
   exact this
end Cnt
namespace Graph
open Mem Rot
def setRow (row : List Int) (nx : List Int) : Nat → List Int
 | 0 => nx
 | i + 1 => (setRow row nx i).set (gi row i).toNat (gi row ((i + 1) % row.length))
def setRows (r : List (List Int)) (m : Nat) : Nat → List Int
 | 0 => List.replicate m 0
 | v + 1 => setRow (gl r v) (setRows r m v) (gl r v).length
def nxL (r : List (List Int)) (m : Nat) : List Int := setRows r m r.length
theorem setRow_length (row nx : List Int) : ∀ i, (setRow row nx i).length = nx.length
 | 0 => rfl
 | i + 1 => by show ((setRow row nx i).set _ _).length = _; rw [List.length_set, setRow_length row nx i]
theorem setRows_length (r : List (List Int)) (m : Nat) : ∀ v, (setRows r m v).length = m
 | 0 => by simp [setRows]
 | v + 1 => by show (setRow _ _ _).length = _; rw [setRow_length, setRows_length r m v]
def NextPost (nx : List Int) (e0 : Int) (w : World) (e : Ending) (w' : World) : Prop := ∃ v0_ : Value, e = .returned (.tuple #[v0_, .int .i64 e0]) ∧ Kd.R (Kd.int .i64) 3 w' w.heap.size (fun _ => True) v0_ nx ∧ Below w.heap.size w w'
theorem next_bad (n : Int) (A : Option Addr) (m c : Nat) (A1 : Option Addr) (lr c1 : Nat) (v0 e0 : Int) (he : e0 ≠ 0) (w : World)
  (hck : ∀ W, Below w.heap.size w W → Calls Try.prog 43 #[.agg #[.int .i64 n, .slice A m c], .slice A1 lr c1] W fun e w' => e = .returned (.tuple #[.int .i64 v0, .int .i64 e0]) ∧ Below W.heap.size W w') :
  Calls Try.prog 46 #[.agg #[.int .i64 n, .slice A m c], .slice A1 lr c1] w (NextPost [] e0 w) := by
 have HC := Aside0.mk hck
 have HB := Aside0.mk ((Below.refl w.heap.size w).alloc (Nat.le_refl _) (.cells #[.int .i64 n, .slice A m c] 24 (0, 0)))
 have HX := Aside0.mk (heap_last w (.cells #[.int .i64 n, .slice A m c] 24 (0, 0)))
 have x0 : (w.alloc (.cells #[.int .i64 n, .slice A m c] 24 (0, 0))).cell? ⟨w.heap.size, 0, none⟩ = some (.int .i64 n) := heap_cell HX.out rfl
 have x1 : (w.alloc (.cells #[.int .i64 n, .slice A m c] 24 (0, 0))).cell? ⟨w.heap.size, 1, none⟩ = some (.slice A m c) := heap_cell HX.out rfl
 clear hck
 have t0 : (e0 != 0) = true := bne_iff_ne.2 he
 clear he
 go_enter Try.func46, Try.ntmps46
 go_wp2_with fail
 clear x0 x1
 generalize w.alloc (.cells #[.int .i64 n, .slice A m c] 24 (0, 0)) = w1 at HX HB ⊢
 obtain ⟨bg, hbg⟩ : ∃ bg, bg = w.heap.size := ⟨_, rfl⟩
 rw [← hbg] at HX ⊢
 clear hbg
 refine (HC.out w1 HB.out).mono ?_
 rintro e' w2 ⟨rfl, hb⟩
 have HX2 := Aside0.mk ((hb.block _ (lt_of HX.out)).trans HX.out)
 have HB2 := Aside0.mk (HB.out.trans (hb.mono HB.out.size))
 clear hb HX HB
 have x1 : w2.cell? ⟨bg, 1, none⟩ = some (.slice A m c) := heap_cell HX2.out rfl
 go_wp2_with fail
 go_ret2
 exact ⟨_, rfl, Kd.R_nil _ _ _ _ _, HB2.out⟩
theorem next_ok (n : Int) (A : Option Addr) (m c : Nat) (A1 : Option Addr) (c1 : Nat) (r : List (List Int)) (v0 : Int) (w : World) (hr : Kd.C KR w A1 r.length r) (hm : m ≤ 4194304)
  (hin : ∀ v i, v < r.length → i < (gl r v).length → 0 ≤ gi (gl r v) i ∧ gi (gl r v) i < ((2 * m : Nat) : Int)) (hsm : ∀ v, v < r.length → (gl r v).length ≤ 9000000000000) (hrl : r.length ≤ 9000000000000)
  (hck : ∀ W, Below w.heap.size w W → Calls Try.prog 43 #[.agg #[.int .i64 n, .slice A m c], .slice A1 r.length c1] W fun e w' => e = .returned (.tuple #[.int .i64 v0, .int .i64 0]) ∧ Below W.heap.size W w') :
  Calls Try.prog 46 #[.agg #[.int .i64 n, .slice A m c], .slice A1 r.length c1] w (NextPost (nxL r (2 * m)) 0 w) := by
 have HC := Aside0.mk hck
 have HB := Aside0.mk ((Below.refl w.heap.size w).alloc (Nat.le_refl _) (.cells #[.int .i64 n, .slice A m c] 24 (0, 0)))
 have HX := Aside0.mk (heap_last w (.cells #[.int .i64 n, .slice A m c] 24 (0, 0)))
 have x0 : (w.alloc (.cells #[.int .i64 n, .slice A m c] 24 (0, 0))).cell? ⟨w.heap.size, 0, none⟩ = some (.int .i64 n) := heap_cell HX.out rfl
 have x1 : (w.alloc (.cells #[.int .i64 n, .slice A m c] 24 (0, 0))).cell? ⟨w.heap.size, 1, none⟩ = some (.slice A m c) := heap_cell HX.out rfl
 clear hck
 have HR := Aside0.mk hr
 have HSM := Aside0.mk hsm
 obtain ⟨M, hM⟩ : ∃ M, M = 2 * m := ⟨_, rfl⟩
 rw [← hM] at hin ⊢
 have HIN := Aside0.mk hin
 have hMb : M ≤ 8388608 := by omega
 have q : IntKind.i64.wrap (2 * (m : Int)) = (M : Int) := by rw [IntWalk.i64_in _ (by omega)]; omega
 have mk := print_make (P := Try.prog) 27 3 .i64 8 Try.underlying27 info_int (by decide) M (by omega)
 have hMm : 2 * (m : Int) = (M : Int) := by omega
 clear hr hsm hin hM
 go_enter Try.func46, Try.ntmps46
 go_wp2_with fail
 clear x0 x1
 generalize w.alloc (.cells #[.int .i64 n, .slice A m c] 24 (0, 0)) = w1 at HX HB ⊢
 obtain ⟨bg, hbg⟩ : ∃ bg, bg = w.heap.size := ⟨_, rfl⟩
 rw [← hbg] at HX ⊢
 clear hbg
 refine (HC.out w1 HB.out).mono ?_
 rintro e' w2 ⟨rfl, hb⟩
 have HX2 := Aside0.mk ((hb.block _ (lt_of HX.out)).trans HX.out)
 have HB2 := Aside0.mk (HB.out.trans (hb.mono HB.out.size))
 clear hb HX HB
 have x1 : w2.cell? ⟨bg, 1, none⟩ = some (.slice A m c) := heap_cell HX2.out rfl
 go_wp2_with fail
 clear x1 mk
 obtain ⟨bn, hbn⟩ : ∃ bn, bn = w2.heap.size := ⟨_, rfl⟩
 have HT : Aside0 (IRow (w2.alloc (.cells (madeCells #[.int .i64 0] M) 3 (0, 0))) bn (setRows r M 0)) := ⟨by
  rw [made_int, hbn]
  exact IRow.start w2 M⟩
 have HBB := Aside0.mk (HB2.out.alloc HB2.out.size (.cells (madeCells #[.int .i64 0] M) 3 (0, 0)))
 have HLO : Aside0 (w.heap.size ≤ bn) := ⟨by have := HB2.out.size; omega⟩
 rw [← hbn]
 clear hbn HX2 HB2
 generalize w2.alloc (.cells (madeCells #[.int .i64 0] M) 3 (0, 0)) = w3 at HT HBB ⊢
 clear hMm q
 go_loopw [29] (fun y wr => ∃ (v : Nat), y = .int .i64 (v : Int) ∧ v ≤ r.length ∧ Aside0 (IRow wr bn (setRows r M v)) ∧ Aside0 (Below w.heap.size w wr)) (fun y _ => r.length - (intOf y).toNat)
 case atStart => exact ⟨0, rfl, by omega, HT, HBB⟩
 case round =>
  clear HT HBB
  obtain ⟨v, rfl, hv, HT, HBB⟩ := hrel
  by_cases hlt : v < r.length
  ·obtain ⟨ad, D, cD, eA, hx0, hcD, hrow⟩ := row_at HR.out hlt
   subst eA
   have hrl2 := HSM.out v hlt
   obtain ⟨row, hrw⟩ : ∃ row, row = gl r v := ⟨_, rfl⟩
   rw [← hrw] at hx0 hcD hrow hrl2
   have HROW := Aside0.mk hrow
   have HXC := Aside0.mk hx0
   have HRW := Aside0.mk hrw
   have hx := (HBB.out.cell (cell_lt hx0)).trans hx0
   have HT0 : Aside0 (IRow wr bn (setRow row (setRows r M v) 0)) := HT
   clear hrow hx0 hrw HT
   go_wp2_with fail
   clear hx
   go_loopw [35] (fun y wr => ∃ (i : Nat), y = .int .i64 (i : Int) ∧ i ≤ row.length ∧ Aside0 (IRow wr bn (setRow row (setRows r M v) i)) ∧ Aside0 (Below w.heap.size w wr)) (fun y _ => row.length - (intOf y).toNat)
   case atStart => exact ⟨0, rfl, by omega, HT0, HBB⟩
   case round =>
    clear HT0 HBB
    obtain ⟨i, rfl, hi, HT, HBB⟩ := hrel
    by_cases hil : i < row.length
    ·skip
     have hin := HIN.out v i hlt (by rw [← HRW.out]; exact hil)
     obtain ⟨h, hh⟩ : ∃ h : Nat, gi row i = (h : Int) := ⟨(gi row i).toNat, by rw [← HRW.out] at hin; omega⟩
     have hhM : h < M := by rw [← HRW.out, hh] at hin; omega
     obtain ⟨i1, hi1⟩ : ∃ i1, i1 = i + 1 := ⟨_, rfl⟩
     obtain ⟨p, hp⟩ : ∃ p, p = i1 % row.length := ⟨_, rfl⟩
     have hpl : p < row.length := by rw [hp]; exact Nat.mod_lt _ (by omega)
     have t0 : ((row.length : Int) == 0) = false := beq_eq_false_iff_ne.2 (by omega)
     have hx := (HBB.out.cell (cell_lt HXC.out)).trans HXC.out
     obtain ⟨ad2, eD, hxu⟩ := Kd.at_int (Kd.C_below HROW.out HBB.out) (i : Int) (by omega) (by omega)
     obtain ⟨ad3, eD2, hxp⟩ := Kd.at_int (Kd.C_below HROW.out HBB.out) (p : Int) (by omega) (by omega)
     rw [eD] at eD2
     injection eD2 with eD2
     subst eD2
     rw [gi_rd, Int.toNat_natCast] at hxu hxp
     rw [hh] at hxu
     obtain ⟨z, hz⟩ : ∃ z, z = gi row p := ⟨_, rfl⟩
     rw [← hz] at hxp
     have c1 := HT.out.cell (i := h) (by rw [setRow_length, setRows_length]; exact hhM)
     have f1 := HT.out.free h
     have HT2 : Aside0 (IRow (wr.setCell ⟨bn, h, none⟩ (.int .i64 z)) bn (setRow row (setRows r M v) (i + 1))) := ⟨by
      have h1 := HT.out.put h z
      rw [hz, hp, hi1] at h1
      show IRow _ bn ((setRow row (setRows r M v) i).set (gi row i).toNat (gi row ((i + 1) % row.length)))
      rw [hh, Int.toNat_natCast, hz, hp, hi1]
      exact h1⟩
     have HB2 := Aside0.mk (HBB.out.setCell (p := ⟨bn, h, none⟩) HLO.out (.int .i64 z))
     have q1 : IntKind.i64.wrap ((i : Int) + 1) = (i1 : Int) := by rw [IntWalk.i64_in _ (by omega)]; omega
     have q2 : Int.tmod (i1 : Int) (row.length : Int) = (p : Int) := by rw [hp]; rfl
     have q3 : (i1 : Int) % (row.length : Int) = (p : Int) := by rw [hp]; rfl
     have HI1 := Aside0.mk hi1
     have HP1 := Aside0.mk hp
     subst eD
     clear hin hh hz hi1 hp
     go_wp2_with fail
     clear q1 q2 q3 t0 hx hxu hxp c1 f1
     go_roundw
     case rel => exact ⟨i1, rfl, by have := HI1.out; omega, ⟨by rw [HI1.out]; exact HT2.out⟩, HB2⟩
     case measure => have := HI1.out; simp [intOf]; omega
    ·obtain rfl : i = row.length := by omega
     have HT3 : Aside0 (IRow wr bn (setRows r M (v + 1))) := ⟨by show IRow wr bn (setRow (gl r v) (setRows r M v) (gl r v).length); rw [← HRW.out]; exact HT.out⟩
     go_wp2_with fail
     go_roundw
     case rel => exact ⟨v + 1, by go_num, by omega, HT3, HBB⟩
     case measure => simp [intOf]; omega
  ·obtain rfl : v = r.length := by omega
   go_wp2_with fail
   go_ret2
   have h1 := HT.out.own (base := w.heap.size) (ok := fun _ => True) HLO.out (by rw [setRows_length]; omega) trivial
   rw [setRows_length] at h1
   exact ⟨_, rfl, h1, HBB.out⟩
end Graph
namespace Rot
open Mem
theorem must_yes (v e : Int) (w : World) : Calls Try.prog 59 #[.bool true, .int .i64 v, .int .i64 e] w fun x w' => x = .returned (.tuple #[]) ∧ w = w' := by
 go_enter Try.func59, Try.ntmps59
 go_wp2
 go_end0
 exact ⟨rfl, rfl⟩
theorem must_no (v e : Int) (w : World) : Calls Try.prog 59 #[.bool false, .int .i64 v, .int .i64 e] w fun x w' => x = .panicked [{ v := .iface 100 (.agg #[.int .i64 v, .int .i64 e]), recovered := false }] ∧ w = w' := by
 go_enter Try.func59, Try.ntmps59
 go_wp2
 exact ⟨rfl, rfl, rfl⟩
def fault (v e : Int) : Value := .iface 100 (.agg #[.int .i64 v, .int .i64 e])
theorem assert_fault (v e : Int) (w : World) : (Instr.typeAssert (.iface 100 (.agg #[.int .i64 v, .int .i64 e])) 20 100 true).run Try.prog w = .ok (.tuple #[.agg #[.int .i64 v, .int .i64 e], .bool true]) w := by kernel_rfl
theorem wp_act {P : Program} {c : Code} {Q : Exit → Act → World → Prop} {a a' : Act} {w : World} (h : a = a') (hw : c.wp P Q a' w) : c.wp P Q a w := h ▸ hw
def Caught (p q : Nat) (v e : Int) (older : List PanicEntry) (w : World) (z : Ending) (u' : FrameMode) (w' : World) : Prop :=
 z = .returned (.tuple #[]) ∧ u' = .panicking ({ v := fault v e, recovered := true } :: older) ∧ w'.heap[p]? = some (.cells #[.int .i64 v] 3 (0, 0)) ∧ w'.heap[q]? = some (.cells #[.int .i64 e] 43 (0, 0)) ∧ Mem.Frame (fun k => k = p ∨ k = q) w w'
theorem catch_fault (p q : Nat) (v e x y : Int) (older : List PanicEntry) (w : World) (hpq : p ≠ q) (hp : w.heap[p]? = some (.cells #[.int .i64 x] 3 (0, 0))) (hq : w.heap[q]? = some (.cells #[.int .i64 y] 43 (0, 0))) :
  CallsD Try.prog 58 #[.pointer (some ⟨p, 0, none⟩), .pointer (some ⟨q, 0, none⟩)] (.panicking ({ v := fault v e, recovered := false } :: older)) w (Caught p q v e older w) := by
 have HP := Aside0.mk hp
 have HQ0 := Aside0.mk hq
 have c1 : w.cell? ⟨p, 0, none⟩ = some (.int .i64 x) := heap_cell hp rfl
 have c2 : w.cell? ⟨q, 0, none⟩ = some (.int .i64 y) := heap_cell hq rfl
 have f1 : w.frozen? ⟨p, 0, none⟩ = false := heap_free hp 0
 have f2 : w.frozen? ⟨q, 0, none⟩ = false := heap_free hq 0
 clear hp hq
 unfold fault
 refine callsD_of_wpS Try.func58 rfl fun c₀ cs hu => ?_
 apply wpS_seq
 apply wpS_region
 simp [wpOpsS, go_sem, recoverD, hu, Try.ntmps58, Exit.thenS]
 refine wpS_of_wp ?_
 clear hu
 let Q : Exit → Act → World → Prop := fun z a' w' => bodyPostS Try.prog Try.f58 c₀ cs (Caught p q v e older w) z a' ({ c₀ with mode := .panicking ({ v := fault v e, recovered := true } :: older) } :: cs) w'
 refine wp_act (Q := Q) (a' := ⟨#[.pointer (some ⟨p, 0, none⟩), .pointer (some ⟨q, 0, none⟩), .iface 100 (.agg #[.int .i64 v, .int .i64 e]), undef, undef, .iface 100 (.agg #[.int .i64 v, .int .i64 e]), undef, undef, undef, undef, undef, undef, undef, undef, undef, undef, undef, undef, undef, undef], []⟩) (by kernel_rfl) ?_
 have hta := assert_fault v e
 go_wp2_with fail
 clear hta c1 c2 f1 f2
 have HF1 : Aside0 (Mem.Frame (fun k => k = p ∨ k = q) w (w.alloc (.cells #[.int .i64 v, .int .i64 e] 100))) := ⟨(Mem.Frame.refl _ _).alloc _⟩
 have HP1 := Aside0.mk (heap_old HP.out (.cells #[.int .i64 v, .int .i64 e] 100))
 have HQ1 := Aside0.mk (heap_old HQ0.out (.cells #[.int .i64 v, .int .i64 e] 100))
 have HB1 := Aside0.mk (heap_last w (.cells #[.int .i64 v, .int .i64 e] 100))
 have hlp : p < w.heap.size := lt_of HP.out
 have hlq : q < w.heap.size := lt_of HQ0.out
 obtain ⟨b, hb⟩ : ∃ b, b = w.heap.size := ⟨_, rfl⟩
 rw [← hb] at hlp hlq HB1 ⊢
 clear hb
 generalize w.alloc (.cells #[.int .i64 v, .int .i64 e] 100) = w1 at HF1 HP1 HQ1 HB1 ⊢
 have c1 : w1.cell? ⟨p, 0, none⟩ = some (.int .i64 x) := heap_cell HP1.out rfl
 have c2 : w1.cell? ⟨q, 0, none⟩ = some (.int .i64 y) := heap_cell HQ1.out rfl
 have f1 : w1.frozen? ⟨p, 0, none⟩ = false := heap_free HP1.out 0
 have f2 : w1.frozen? ⟨q, 0, none⟩ = false := heap_free HQ1.out 0
 have d1 : w1.cell? ⟨b, 0, none⟩ = some (.int .i64 v) := heap_cell HB1.out rfl
 have d2 : w1.cell? ⟨b, 1, none⟩ = some (.int .i64 e) := heap_cell HB1.out rfl
 refine start_ (n := 6) (S := fun w' => w'.cell? ⟨b, 0, none⟩ = some (.int .i64 v) ∧ w'.cell? ⟨b, 1, none⟩ = some (.int .i64 e)) (ds := [5]) (bm9 6 0) (by kernel_rfl) rfl rfl ⟨d1, d2⟩ (fun hHeld => ?_)
 refine pu9 0 16 (bm9 6 1) ?_
 refine pu9 2 18 (bm9 6 5) ?_
 refine tk29 1 17 (bm9 6 7) hHeld ?_
 refine tk29 3 19 (bm9 6 15) hHeld ?_
 refine one_ (i := 4) (N := none) (bm9 6 31) rfl rfl (by kernel_rfl) (by decide) (fun K hK => ?_)
 obtain ⟨e1, e2⟩ := hHeld
 refine skip_ (w1 := ?_) (by rfl) rfl ?_ ?_
 rotate_left
 ·go_simp
  rfl
 refine hK.out _ _ ⟨cell_ne e1 _ (show b ≠ p by omega), cell_ne e2 _ (show b ≠ p by omega)⟩ (fun hHeld => ?_)
 clear hK K
 refine last_ (i := 5) (N := none) (bm9 6 63) rfl rfl (by kernel_rfl) (by decide) (fun K hK => ?_)
 refine skip_ (w1 := ?_) (by rfl) rfl ?_ ?_
 rotate_left
 ·go_simp
  rfl
 refine hK.out _ _ ?_
 clear hK K
 refine done_ (by kernel_rfl) ?_
 go_wp2_with fail
 have g1 := heap_ne (b := q) (i := 0) (v := .int .i64 e) (heap_set (i := 0) HP1.out (.int .i64 v)) hpq
 have g2 := heap_set (i := 0) (heap_ne (b := p) (i := 0) (v := .int .i64 v) HQ1.out (Ne.symm hpq)) (.int .i64 e)
 have g3 := ((HF1.out.setCell (p := ⟨p, 0, none⟩) (.inl rfl) (.int .i64 v)).setCell (p := ⟨q, 0, none⟩) (.inr rfl) (.int .i64 e)).drew
 exact ⟨rfl, _, rfl, .tuple #[], by simp [results, Try.results58], rfl, rfl, g1, g2, g3⟩
theorem catch_idle (p q : Nat) (w : World) :
  CallsD Try.prog 58 #[.pointer (some ⟨p, 0, none⟩), .pointer (some ⟨q, 0, none⟩)] .returning w fun z u' w' => z = .returned (.tuple #[]) ∧ u' = .returning ∧ w = w' := by
 refine callsD_of_wpS Try.func58 rfl fun c₀ cs hu => ?_
 apply wpS_seq
 apply wpS_region
 simp [wpOpsS, go_sem, recoverD, hu, Try.ntmps58, Exit.thenS]
 refine wpS_of_wp ?_
 let Q : Exit → Act → World → Prop := fun z a' w' => bodyPostS Try.prog Try.f58 c₀ cs (fun z u' w' => z = .returned (.tuple #[]) ∧ u' = .returning ∧ w = w') z a' (c₀ :: cs) w'
 have HU := Aside0.mk hu
 clear hu
 refine wp_act (Q := Q) (a' := ⟨#[.pointer (some ⟨p, 0, none⟩), .pointer (some ⟨q, 0, none⟩), .nilIface, undef, undef, .nilIface, undef, undef, undef, undef, undef, undef, undef, undef, undef, undef, undef, undef, undef, undef], []⟩) (by kernel_rfl) ?_
 go_wp2_with fail
 refine ⟨rfl, .returning, ?_, .tuple #[], by simp [results, Try.results58], rfl, rfl, rfl⟩
 rw [← HU.out]
def wCaught (w : World) : World := (w.alloc (.cells #[.int .i64 0] 3 (0, 0))).alloc (.cells #[.int .i64 0] 43 (0, 0))
def Two (w w2 w' : World) : Prop := Mem.Frame (fun k => k = w.heap.size ∨ k = w.heap.size + 1) w2 w'
theorem caught_ok (k : FuncId) (caps : Array Value) (w : World) (G : World → Prop) (hk : ∀ W, (callFunc k caps).run Try.prog W = .ok (.enter k caps) W) (h : Calls Try.prog k caps (wCaught w) fun z w2 => z = .returned (.tuple #[]) ∧ G w2)
  (hp : ∀ w2, G w2 → w2.heap[w.heap.size]? = some (.cells #[.int .i64 0] 3 (0, 0)) ∧ w2.heap[w.heap.size + 1]? = some (.cells #[.int .i64 0] 43 (0, 0))) :
  Calls Try.prog 53 #[.func (.func k) #[] caps] w fun z w' => z = .returned (.tuple #[.int .i64 0, .int .i64 0]) ∧ ∃ w2, G w2 ∧ Two w w2 w' := by
 have hmf : ∀ (fn : Fn) (first cap : Array Value) (w : World), (Instr.makeFunc fn first cap).run Try.prog w = .ok (.func fn first cap) w := fun _ _ _ _ => rfl
 have H := Aside0.mk h
 have HP := Aside0.mk hp
 clear h hp
 go_enter_defers Try.func53, Try.ntmps53
 go_wp2_with fail
 refine (H.out).mono ?_
 rintro z w2 ⟨rfl, hg⟩
 obtain ⟨g1, g2⟩ := HP.out w2 hg
 have HG := Aside0.mk hg
 have G1 := Aside0.mk g1
 have G2 := Aside0.mk g2
 clear H HP hg
 have c1 : w2.cell? ⟨w.heap.size, 0, none⟩ = some (.int .i64 0) := heap_cell g1 rfl
 have c2 : w2.cell? ⟨w.heap.size + 1, 0, none⟩ = some (.int .i64 0) := heap_cell g2 rfl
 have f1 : w2.frozen? ⟨w.heap.size, 0, none⟩ = false := heap_free g1 0
 have f2 : w2.frozen? ⟨w.heap.size + 1, 0, none⟩ = false := heap_free g2 0
 clear g1 g2
 go_wp2_with fail
 have n1 := heap_set (i := 0) (heap_ne (b := w.heap.size) (i := 0) (v := .int .i64 0) G2.out (by omega)) (.int .i64 0)
 have n2 := heap_ne (b := w.heap.size + 1) (i := 0) (v := .int .i64 0) (heap_set (i := 0) G1.out (.int .i64 0)) (by omega)
 have n3 : Two w w2 ((w2.setCell ⟨w.heap.size, 0, none⟩ (.int .i64 0)).setCell ⟨w.heap.size + 1, 0, none⟩ (.int .i64 0)) := ((Mem.Frame.refl _ w2).setCell (p := ⟨w.heap.size, 0, none⟩) (.inl rfl) (.int .i64 0)).setCell (p := ⟨w.heap.size + 1, 0, none⟩) (.inr rfl) (.int .i64 0)
 generalize (w2.setCell ⟨w.heap.size, 0, none⟩ (.int .i64 0)).setCell ⟨w.heap.size + 1, 0, none⟩ (.int .i64 0) = w3 at n1 n2 n3 ⊢
 refine leaves_cons (f := 58) (args := #[.pointer (some ⟨w.heap.size, 0, none⟩), .pointer (some ⟨w.heap.size + 1, 0, none⟩)]) (by simp) (by simp [go_sem]) ?_
 refine (catch_idle _ _ _).mono ?_
 rintro e u' w'' ⟨rfl, rfl, rfl⟩
 have m1 : w3.cell? ⟨w.heap.size, 0, none⟩ = some (.int .i64 0) := heap_cell n2 rfl
 have m2 : w3.cell? ⟨w.heap.size + 1, 0, none⟩ = some (.int .i64 0) := heap_cell n1 rfl
 refine ⟨.tuple #[.int .i64 0, .int .i64 0], by simp [results, Try.results53, go_sem, m1, m2], rfl, w2, HG.out, n3⟩
theorem caught_fault (k : FuncId) (caps : Array Value) (w : World) (v e : Int) (G : World → Prop) (hk : ∀ W, (callFunc k caps).run Try.prog W = .ok (.enter k caps) W) (h : Calls Try.prog k caps (wCaught w) fun z w2 => z = .panicked [{ v := fault v e, recovered := false }] ∧ G w2)
  (hp : ∀ w2, G w2 → w2.heap[w.heap.size]? = some (.cells #[.int .i64 0] 3 (0, 0)) ∧ w2.heap[w.heap.size + 1]? = some (.cells #[.int .i64 0] 43 (0, 0))) :
  Calls Try.prog 53 #[.func (.func k) #[] caps] w fun z w' => z = .returned (.tuple #[.int .i64 v, .int .i64 e]) ∧ ∃ w2, G w2 ∧ Two w w2 w' := by
 have hmf : ∀ (fn : Fn) (first cap : Array Value) (w : World), (Instr.makeFunc fn first cap).run Try.prog w = .ok (.func fn first cap) w := fun _ _ _ _ => rfl
 have H := Aside0.mk h
 have HP := Aside0.mk hp
 clear h hp
 go_enter_defers Try.func53, Try.ntmps53
 go_wp2_with fail
 refine (H.out).mono ?_
 rintro z w2 ⟨rfl, hg⟩
 obtain ⟨g1, g2⟩ := HP.out w2 hg
 have HG := Aside0.mk hg
 clear H HP hg
 go_wp2_with fail
 refine leaves_cons (f := 58) (args := #[.pointer (some ⟨w.heap.size, 0, none⟩), .pointer (some ⟨w.heap.size + 1, 0, none⟩)]) (by simp) (by simp [go_sem]) ?_
 refine (catch_fault _ _ v e 0 0 [] _ (by omega) g1 g2).mono ?_
 rintro e' u' w3 ⟨rfl, rfl, n1, n2, n3⟩
 have m1 : w3.cell? ⟨w.heap.size, 0, none⟩ = some (.int .i64 v) := heap_cell n1 rfl
 have m2 : w3.cell? ⟨w.heap.size + 1, 0, none⟩ = some (.int .i64 e) := heap_cell n2 rfl
 refine ⟨.tuple #[.int .i64 v, .int .i64 e], by simp [results, Try.results53, go_sem, m1, m2], rfl, w2, HG.out, n3⟩
end Rot
namespace Rot
open Mem
def Gave (res : Int × Int) (z : Ending) : Prop := z = if res.2 = 0 then .returned (.tuple #[]) else .panicked [{ v := fault res.1 res.2, recovered := false }]
theorem Gave.fault {v e : Int} (he : e ≠ 0) : Gave (v, e) (.panicked [{ v := .iface 100 (.agg #[.int .i64 v, .int .i64 e]), recovered := false }]) := by
 unfold Gave Rot.fault
 rw [if_neg he]
theorem Gave.none : Gave (0, 0) (.returned (.tuple #[])) := rfl
def ValidSays (b : Bool) (n : Int) (A : Option Addr) (l c : Nat) (w : World) : Prop := ∀ w', Below w.heap.size w w' →
 Calls Try.prog 60 #[.agg #[.int .i64 n, .slice A l c]] w' fun e w'' => e = .returned (.bool b) ∧ Below w'.heap.size w' w''
def DegreesSays (ds : List Int) (n : Int) (A : Option Addr) (l c : Nat) (w : World) : Prop := ∀ w', Below w.heap.size w w' →
 Calls Try.prog 61 #[.agg #[.int .i64 n, .slice A l c]] w' fun e w'' => ∃ v, e = .returned (.tuple #[v, .int .i64 0]) ∧ Kd.R (Kd.int .i64) 3 w'' w'.heap.size (fun _ => True) v ds ∧ Below w'.heap.size w' w''
theorem check_invalid (n : Int) (A : Option Addr) (l c : Nat) (Ar : Option Addr) (m cr : Nat) (w : World) (hv : ValidSays false n A l c w) :
  Calls Try.prog 55 #[.agg #[.int .i64 n, .slice A l c], .slice Ar m cr] w fun z w' => Gave (0, 1) z ∧ Below w.heap.size w w' := by
 have HB := Aside0.mk ((Below.refl w.heap.size w).alloc (Nat.le_refl _) (.cells #[.int .i64 n, .slice A l c] 24 (0, 0)))
 have HV := Aside0.mk (hv _ HB.out)
 clear hv
 go_enter Try.func55, Try.ntmps55
 go_wp2_with fail
 refine (HV.out).mono ?_
 rintro e w2 ⟨rfl, hb⟩
 have HB2 := Aside0.mk (HB.out.trans (hb.mono HB.out.size))
 clear hb HB HV
 go_wp2_with fail
 refine (must_no 0 1 _).mono ?_
 rintro e w3 ⟨rfl, rfl⟩
 go_wp2_with fail
 exact ⟨rfl, Gave.fault (by decide), HB2.out⟩
theorem check_length (n : Nat) (A : Option Addr) (l c : Nat) (Ar : Option Addr) (m cr : Nat) (w : World) (hv : ValidSays true (n : Int) A l c w) (hm : m ≠ n) :
  Calls Try.prog 55 #[.agg #[.int .i64 (n : Int), .slice A l c], .slice Ar m cr] w fun z w' => Gave (0, 110) z ∧ Below w.heap.size w w' := by
 have HB := Aside0.mk ((Below.refl w.heap.size w).alloc (Nat.le_refl _) (.cells #[.int .i64 (n : Int), .slice A l c] 24 (0, 0)))
 have HX := Aside0.mk (heap_last w (.cells #[.int .i64 (n : Int), .slice A l c] 24 (0, 0)))
 have HV := Aside0.mk (hv _ HB.out)
 have q1 : (((m : Nat) : Int) == ((n : Nat) : Int)) = false := by rw [beq_eq_false_iff_ne]; omega
 have q2 : (m == n) = false := by rw [beq_eq_false_iff_ne]; exact hm
 clear hv hm
 go_enter Try.func55, Try.ntmps55
 go_wp2_with fail
 refine (HV.out).mono ?_
 rintro e w2 ⟨rfl, hb⟩
 have HB2 := Aside0.mk (HB.out.trans (hb.mono HB.out.size))
 have HX2 := Aside0.mk ((hb.block _ (lt_of HX.out)).trans HX.out)
 clear hb HB HV HX
 have x0 : w2.cell? ⟨w.heap.size, 0, none⟩ = some (.int .i64 (n : Int)) := heap_cell HX2.out rfl
 go_wp2_with fail
 refine (must_yes _ _ _).mono ?_
 rintro e w3 ⟨rfl, rfl⟩
 go_wp2_with fail
 refine (must_no 0 110 _).mono ?_
 rintro e w3 ⟨rfl, rfl⟩
 go_wp2_with fail
 exact ⟨rfl, Gave.fault (by decide), HB2.out⟩
theorem check_rows (n : Nat) (A : Option Addr) (c : Nat) (es : List (Int × Int)) (Ar : Option Addr) (cr : Nat) (r : List (List Int)) (ds : List Int) (w : World) (hv : ValidSays true (n : Int) A es.length c w) (hd : DegreesSays ds (n : Int) A es.length c w)
  (he : Pairs w A es) (hl : es.length ≤ 4194304) (hn : n ≤ 1048576) (hr : Kd.C KR w Ar r.length r) (hm : r.length = n) (hdl : ds.length = n) :
  Calls Try.prog 55 #[.agg #[.int .i64 (n : Int), .slice A es.length c], .slice Ar r.length cr] w fun z w' => Gave (rows (froms es) ds 0 r (List.replicate (2 * es.length) false)) z ∧ Below w.heap.size w w' := by
 have HB := Aside0.mk ((Below.refl w.heap.size w).alloc (Nat.le_refl _) (.cells #[.int .i64 (n : Int), .slice A es.length c] 24 (0, 0)))
 have HX := Aside0.mk (heap_last w (.cells #[.int .i64 (n : Int), .slice A es.length c] 24 (0, 0)))
 have HV := Aside0.mk (hv _ HB.out)
 have HD := Aside0.mk hd
 have HE := Aside0.mk he
 have HR := Aside0.mk hr
 have HDL := Aside0.mk hdl
 have HM := Aside0.mk hm
 have hrl : r.length ≤ 1048576 := by omega
 obtain ⟨RES, hres⟩ : ∃ RES, RES = rows (froms es) ds 0 r (List.replicate (2 * es.length) false) := ⟨_, rfl⟩
 rw [← hres]
 have HRES := Aside0.mk hres.symm
 have q2 : ((r.length : Int) == (n : Int)) = true := by rw [beq_iff_eq]; omega
 have q3 : (r.length == n) = true := by rw [beq_iff_eq]; exact hm
 clear hv hd he hr hdl hres hm
 go_enter Try.func55, Try.ntmps55
 go_wp2_with fail
 refine (HV.out).mono ?_
 rintro e w2 ⟨rfl, hb⟩
 have HB2 := Aside0.mk (HB.out.trans (hb.mono HB.out.size))
 have HX2 := Aside0.mk ((hb.block _ (lt_of HX.out)).trans HX.out)
 clear hb HB HV HX
 have x0 : w2.cell? ⟨w.heap.size, 0, none⟩ = some (.int .i64 (n : Int)) := heap_cell HX2.out rfl
 have x1 : w2.cell? ⟨w.heap.size, 1, none⟩ = some (.slice A es.length c) := heap_cell HX2.out rfl
 go_wp2_with fail
 refine (must_yes _ _ _).mono ?_
 rintro e w3 ⟨rfl, rfl⟩
 go_wp2_with fail
 refine (must_yes _ _ _).mono ?_
 rintro e w3 ⟨rfl, rfl⟩
 go_wp2_with fail
 refine (HD.out _ HB2.out).mono ?_
 rintro e w3 ⟨vd, rfl, hR, hb⟩
 have HB3 := Aside0.mk (HB2.out.trans (hb.mono HB2.out.size))
 have HX3 := Aside0.mk ((hb.block _ (lt_of HX2.out)).trans HX2.out)
 obtain ⟨Ad, cd, rfl, _, hC⟩ := Kd.R_reads hR
 have HDS := Aside0.mk hC
 clear hb hR hC HB2 HX2 HD x0 x1 q2 q3
 have x0 : w3.cell? ⟨w.heap.size, 0, none⟩ = some (.int .i64 (n : Int)) := heap_cell HX3.out rfl
 have x1 : w3.cell? ⟨w.heap.size, 1, none⟩ = some (.slice A es.length c) := heap_cell HX3.out rfl
 go_wp2_with fail
 refine (begins_calls n A c es w3 (HE.out.below HB3.out) hl).mono ?_
 rintro e w4 ⟨vf, rfl, hR, hb⟩
 have HB4 := Aside0.mk (HB3.out.trans (hb.mono HB3.out.size))
 have HDS4 := Aside0.mk (Kd.C_below HDS.out hb)
 obtain ⟨Af, cf, rfl, _, hC⟩ := Kd.R_reads hR
 have HF4 := Aside0.mk hC
 have HR4 := Aside0.mk (Kd.C_below HR.out HB4.out)
 have hfl := froms_length es
 obtain ⟨fr, hfr⟩ : ∃ fr, fr = froms es := ⟨_, rfl⟩
 rw [← hfr] at HF4 hfl HRES ⊢
 have HFL := Aside0.mk hfl
 have hfr2 : fr.length ≤ 8388608 := by omega
 clear hb hR hC HB3 HX3 HDS HE HR x0 x1 hfl hfr
 have mk1 := print_make_of (P := Try.prog) 36 4 (.bool false) 1 Try.underlying36 info_bool rfl (by decide) fr.length (by omega)
 rw [made_bool] at mk1
 go_wp2_with fail
 clear mk1
 have HS := Aside0.mk (BRow.start w4 fr.length)
 have HBB : Aside0 (Below w4.heap.size w4 (w4.alloc (.cells (Array.replicate fr.length (Value.bool false)) 4 (0, 0)))) := ⟨(Below.refl _ _).alloc (Nat.le_refl _) _⟩
 generalize w4.alloc (.cells (Array.replicate fr.length (Value.bool false)) 4 (0, 0)) = w5 at HS HBB ⊢
 obtain ⟨bs, hbs⟩ : ∃ bs, bs = w4.heap.size := ⟨_, rfl⟩
 rw [← hbs] at HS ⊢
 have hbs2 : w4.heap.size ≤ bs := by omega
 clear hbs
 rw [← HFL.out] at HRES
 go_loopw [33] (fun y wr => ∃ (v : Nat) (S : List Bool), y = .int .i64 (v : Int) ∧ v ≤ r.length ∧ Aside0 (rows fr ds v (r.drop v) S = RES) ∧ Aside0 (S.length = fr.length) ∧ Aside0 (BRow wr bs S) ∧ Aside0 (Below w4.heap.size w4 wr)) (fun y _ => r.length - (intOf y).toNat)
 case atStart => exact ⟨0, _, rfl, by omega, HRES, ⟨by simp⟩, HS, HBB⟩
 case round =>
  clear HS HBB HRES
  obtain ⟨v, S, rfl, hvr, HRES, HSL, HS, HBB⟩ := hrel
  by_cases hlt : v < r.length
  ·obtain ⟨ad, B, cB, eA, hx4, hcB, hrow⟩ := row_at HR4.out hlt
   subst eA
   have hx := (HBB.out.cell (cell_lt hx4)).trans hx4
   clear hx4
   have hdr := drop_row hlt
   obtain ⟨row, hrw⟩ : ∃ row, row = gl r v := ⟨_, rfl⟩
   rw [← hrw] at hx hcB hrow hdr
   have hbig := C_le hrow
   rw [hdr] at HRES
   have HROW := Aside0.mk hrow
   clear hrw hdr hrow
   go_wp2_with fail
   have HS0 := HS
   have HBB0 := HBB
   have HSL0 := HSL
   obtain ⟨EL, hel⟩ : ∃ EL, EL = elems fr v row S := ⟨_, rfl⟩
   have HEL := Aside0.mk hel.symm
   have HRE : Aside0 (after fr ds v row (r.drop (v + 1)) EL = RES) := ⟨by rw [hel, ← rows_cons]; exact HRES.out⟩
   clear hel HRES
   go_loopw [40] (fun y wq => ∃ (k : Nat) (S' : List Bool), y = .int .i64 (k : Int) ∧ k ≤ row.length ∧ Aside0 (elems fr v (row.drop k) S' = EL) ∧ Aside0 (S'.length = fr.length) ∧ Aside0 (BRow wq bs S') ∧ Aside0 (Below w4.heap.size w4 wq)) (fun y _ => row.length - (intOf y).toNat)
   case atStart => exact ⟨0, S, rfl, by omega, HEL, HSL0, HS0, HBB0⟩
   case round =>
    clear HS0 HBB0 HSL0 HS HBB HSL HEL
    obtain ⟨k, S', rfl, hkr, HEL, HSL, HS, HBB⟩ := hrel
    by_cases hlt2 : k < row.length
    ·obtain ⟨ah, eH, hxh⟩ := Kd.at_int (Kd.C_below HROW.out HBB.out) (k : Int) (by omega) (by omega)
     subst eH
     rw [Int.toNat_natCast, gi_rd] at hxh
     have hdk := drop_int hlt2
     obtain ⟨h, hh⟩ : ∃ h, h = gi row k := ⟨_, rfl⟩
     rw [← hh] at hxh hdk
     rw [hdk] at HEL
     clear hh hdk
     by_cases h0 : h ≥ 0
     ·have t0 : decide (h ≥ 0) = true := decide_eq_true h0
      by_cases h1 : h < (fr.length : Int)
      ·have t1 : decide (h < (fr.length : Int)) = true := decide_eq_true h1
       obtain ⟨hn', rfl⟩ := Int.eq_ofNat_of_zero_le h0
       have hlf : hn' < fr.length := by omega
       obtain ⟨af, eF, hxf⟩ := Kd.at_int (Kd.C_below HF4.out HBB.out) (hn' : Int) (by omega) (by omega)
       subst eF
       rw [Int.toNat_natCast, gi_rd] at hxf
       obtain ⟨x, hx2⟩ : ∃ x, x = gi fr hn' := ⟨_, rfl⟩
       rw [← hx2] at hxf
       have HX2 := Aside0.mk hx2
       clear hx2 t0 h0 h1
       by_cases he : x = (v : Int)
       ·have t2 : (x == (v : Int)) = true := beq_iff_eq.2 he
        have HLV : Aside0 (leaves fr v (hn' : Int) = true) := ⟨by unfold leaves; rw [Int.toNat_natCast, ← HX2.out, t2, t1]; simp⟩
        clear he HX2
        have hxs := HS.out.cell (i := hn') (by rw [HSL.out]; exact hlf)
        have hfs := HS.out.free hn'
        cases hb : gb S' hn' with
        | true =>
         rw [hb] at hxs
         have HRE2 : Aside0 (((v : Int), 112) = RES) := ⟨by rw [← HRE.out, ← HEL.out, elems_cons_twice HLV.out (by simpa using hb)]; rfl⟩
         clear hb HEL
         go_wp2_with fail
         refine (must_yes _ _ _).mono ?_
         rintro e w6 ⟨rfl, rfl⟩
         go_wp2_with fail
         refine (must_no _ _ _).mono ?_
         rintro e w6 ⟨rfl, rfl⟩
         go_wp2_with fail
         exact ⟨rfl, by rw [← HRE2.out]; exact Gave.fault (by decide), HB4.out.trans (HBB.out.mono HB4.out.size)⟩
        | false =>
         rw [hb] at hxs
         have HEL2 : Aside0 (elems fr v (row.drop (k + 1)) (S'.set hn' true) = EL) := ⟨by rw [← HEL.out, elems_cons HLV.out (by simpa using hb)]; simp⟩
         clear hb HEL
         go_wp2_with fail
         refine (must_yes _ _ _).mono ?_
         rintro e w6 ⟨rfl, rfl⟩
         go_wp2_with fail
         refine (must_yes _ _ _).mono ?_
         rintro e w6 ⟨rfl, rfl⟩
         have HS2 := Aside0.mk (HS.out.put hn' true)
         have HBB2 := Aside0.mk (HBB.out.setCell (p := ⟨bs, hn', none⟩) hbs2 (.bool true))
         have HSL2 : Aside0 ((S'.set hn' true).length = fr.length) := ⟨by rw [List.length_set]; exact HSL.out⟩
         clear HS HBB HSL
         go_wp2_with fail
         go_roundw
         case rel => exact ⟨k + 1, _, by go_num, by omega, HEL2, HSL2, HS2, HBB2⟩
         case measure => simp [intOf]; omega
       ·have t2 : (x == (v : Int)) = false := beq_eq_false_iff_ne.2 he
        have HRE2 : Aside0 (((v : Int), 111) = RES) := ⟨by rw [← HRE.out, ← HEL.out, elems_cons_no (by unfold leaves; rw [Int.toNat_natCast, ← HX2.out, t2]; simp)]; rfl⟩
        clear he HX2 HEL
        go_wp2_with fail
        refine (must_no _ _ _).mono ?_
        rintro e w6 ⟨rfl, rfl⟩
        go_wp2_with fail
        exact ⟨rfl, by rw [← HRE2.out]; exact Gave.fault (by decide), HB4.out.trans (HBB.out.mono HB4.out.size)⟩
      ·have t1 : decide (h < (fr.length : Int)) = false := decide_eq_false h1
       have HRE2 : Aside0 (((v : Int), 111) = RES) := ⟨by rw [← HRE.out, ← HEL.out, elems_cons_no (by unfold leaves; rw [t1]; simp)]; rfl⟩
       clear h0 h1 HEL
       go_wp2_with fail
       refine (must_no _ _ _).mono ?_
       rintro e w6 ⟨rfl, rfl⟩
       go_wp2_with fail
       exact ⟨rfl, by rw [← HRE2.out]; exact Gave.fault (by decide), HB4.out.trans (HBB.out.mono HB4.out.size)⟩
     ·have t0 : decide (h ≥ 0) = false := decide_eq_false h0
      have HRE2 : Aside0 (((v : Int), 111) = RES) := ⟨by rw [← HRE.out, ← HEL.out, elems_cons_no (by unfold leaves; rw [t0]; simp)]; rfl⟩
      clear h0 HEL
      go_wp2_with fail
      refine (must_no _ _ _).mono ?_
      rintro e w6 ⟨rfl, rfl⟩
      go_wp2_with fail
      exact ⟨rfl, by rw [← HRE2.out]; exact Gave.fault (by decide), HB4.out.trans (HBB.out.mono HB4.out.size)⟩
    ·obtain rfl : k = row.length := by omega
     rw [List.drop_length] at HEL
     have HRE3 : Aside0 (after fr ds v row (r.drop (v + 1)) (.ok S') = RES) := ⟨by rw [← HRE.out, ← HEL.out]; rfl⟩
     obtain ⟨ads, eD, hxd⟩ := Kd.at_int (Kd.C_below HDS4.out HBB.out) (v : Int) (by omega) (by rw [HDL.out, ← HM.out]; omega)
     subst eD
     rw [Int.toNat_natCast, gi_rd] at hxd
     obtain ⟨x, hx2⟩ : ∃ x, x = gi ds v := ⟨_, rfl⟩
     rw [← hx2] at hxd
     have HX2 := Aside0.mk hx2
     have hvd : v < ds.length := by rw [HDL.out, ← HM.out]; exact hlt
     clear hx2 HEL
     by_cases he : (row.length : Int) = x
     ·have t2 : ((row.length : Int) == x) = true := beq_iff_eq.2 he
      have HRE4 : Aside0 (rows fr ds (v + 1) (r.drop (v + 1)) S' = RES) := ⟨by rw [← HRE3.out]; rw [after_ok, ← HX2.out, if_pos he]⟩
      clear he HX2 HRE3 HRE
      go_wp2_with fail
      refine (must_yes _ _ _).mono ?_
      rintro e w6 ⟨rfl, rfl⟩
      go_wp2_with fail
      go_roundw
      case rel => exact ⟨v + 1, S', by go_num, by omega, HRE4, HSL, HS, HBB⟩
      case measure => simp [intOf]; omega
     ·have t2 : ((row.length : Int) == x) = false := beq_eq_false_iff_ne.2 he
      have HRE4 : Aside0 (((v : Int), 113) = RES) := ⟨by rw [← HRE3.out]; rw [after_ok, ← HX2.out, if_neg he]⟩
      clear he HX2 HRE3 HRE
      go_wp2_with fail
      refine (must_no _ _ _).mono ?_
      rintro e w6 ⟨rfl, rfl⟩
      go_wp2_with fail
      exact ⟨rfl, by rw [← HRE4.out]; exact Gave.fault (by decide), HB4.out.trans (HBB.out.mono HB4.out.size)⟩
  ·obtain rfl : v = r.length := by omega
   rw [List.drop_length] at HRES
   have HRES2 : Aside0 ((0, 0) = RES) := ⟨HRES.out⟩
   clear HRES
   go_wp2_with fail
   go_end0
   exact ⟨by rw [← HRES2.out]; exact Gave.none, HB4.out.trans (HBB.out.mono HB4.out.size)⟩
def CheckSays (res : Int × Int) (g r : Value) (w : World) : Prop := ∀ w', Below w.heap.size w w' → Calls Try.prog 55 #[g, r] w' fun z w'' => Gave res z ∧ Below w'.heap.size w' w''
theorem Gave.cases {res : Int × Int} {z : Ending} (h : Gave res z) (h0 : res = (0, 0) ∨ res.2 ≠ 0) : (res = (0, 0) ∧ z = .returned (.tuple #[])) ∨ (res.2 ≠ 0 ∧ z = .panicked [{ v := Rot.fault res.1 res.2, recovered := false }]) := by
 unfold Gave at h
 rcases h0 with rfl | h0
 ·exact .inl ⟨rfl, h⟩
 ·rw [if_neg h0] at h
  exact .inr ⟨h0, h⟩
theorem check1_calls (res : Int × Int) (n : Int) (A : Option Addr) (l c : Nat) (Ar : Option Addr) (m cr : Nat) (p q : Nat) (w : World) (h0 : res = (0, 0) ∨ res.2 ≠ 0) (hc : CheckSays res (.agg #[.int .i64 n, .slice A l c]) (.slice Ar m cr) w)
  (hp : w.heap[p]? = some (.cells #[.int .i64 n, .slice A l c] 24 (0, 0))) (hq : w.heap[q]? = some (.cells #[.slice Ar m cr] 26 (0, 0))) :
  Calls Try.prog 54 #[.pointer (some ⟨p, 0, none⟩), .pointer (some ⟨q, 0, none⟩)] w fun z w' => Gave res z ∧ Below w.heap.size w w' := by
 have H := Aside0.mk (hc w (Below.refl _ _))
 have x0 : w.cell? ⟨p, 0, none⟩ = some (.int .i64 n) := heap_cell hp rfl
 have x1 : w.cell? ⟨p, 1, none⟩ = some (.slice A l c) := heap_cell hp rfl
 have x2 : w.cell? ⟨q, 0, none⟩ = some (.slice Ar m cr) := heap_cell hq rfl
 clear hp hq hc
 go_enter Try.func54, Try.ntmps54
 go_wp2_with fail
 refine (H.out).mono ?_
 rintro z w2 ⟨hg, hb⟩
 have HB := Aside0.mk hb
 clear hb H
 rcases hg.cases h0 with ⟨rfl, rfl⟩ | ⟨hne, rfl⟩
 ·clear hg h0
  go_wp2_with fail
  go_end0
  exact ⟨Gave.none, HB.out⟩
 ·have HG := Aside0.mk hg
  clear hg h0 hne
  go_wp2_with fail
  exact ⟨rfl, HG.out, HB.out⟩
theorem wCaught_below (w : World) : Below w.heap.size w (wCaught w) := ((Below.refl _ _).alloc (Nat.le_refl _) _).alloc (by simp) _
theorem wCaught_own (w : World) : (wCaught w).heap[w.heap.size]? = some (.cells #[.int .i64 0] 3 (0, 0)) ∧ (wCaught w).heap[w.heap.size + 1]? = some (.cells #[.int .i64 0] 43 (0, 0)) := by
 refine ⟨heap_old (heap_last _ _) _, ?_⟩
 have h := heap_last (w.alloc (.cells #[.int .i64 0] 3 (0, 0))) (.cells #[.int .i64 0] 43 (0, 0))
 rw [show (w.alloc (.cells #[.int .i64 0] 3 (0, 0))).heap.size = w.heap.size + 1 by simp] at h
 exact h
theorem wCaught_size (w : World) : (wCaught w).heap.size = w.heap.size + 2 := by unfold wCaught; simp
theorem checkCall (res : Int × Int) (n : Int) (A : Option Addr) (l c : Nat) (Ar : Option Addr) (m cr : Nat) (w : World) (h0 : res = (0, 0) ∨ res.2 ≠ 0) (hc : CheckSays res (.agg #[.int .i64 n, .slice A l c]) (.slice Ar m cr) w) :
  Calls Try.prog 43 #[.agg #[.int .i64 n, .slice A l c], .slice Ar m cr] w fun e w' => e = .returned (.tuple #[.int .i64 res.1, .int .i64 res.2]) ∧ Below w.heap.size w w' := by
 have hmf : ∀ (fn : Fn) (first cap : Array Value) (w : World), (Instr.makeFunc fn first cap).run Try.prog w = .ok (.func fn first cap) w := fun _ _ _ _ => rfl
 have HB := Aside0.mk (((Below.refl w.heap.size w).alloc (Nat.le_refl _) (.cells #[.int .i64 n, .slice A l c] 24 (0, 0))).alloc (by simp) (.cells #[.slice Ar m cr] 26 (0, 0)))
 have HX := Aside0.mk (heap_old (heap_last w (.cells #[.int .i64 n, .slice A l c] 24 (0, 0))) (.cells #[.slice Ar m cr] 26 (0, 0)))
 have HY : Aside0 (((w.alloc (.cells #[.int .i64 n, .slice A l c] 24 (0, 0))).alloc (.cells #[.slice Ar m cr] 26 (0, 0))).heap[w.heap.size + 1]? = some (.cells #[.slice Ar m cr] 26 (0, 0))) := ⟨by
  have h := heap_last (w.alloc (.cells #[.int .i64 n, .slice A l c] 24 (0, 0))) (.cells #[.slice Ar m cr] 26 (0, 0))
  rw [show (w.alloc (.cells #[.int .i64 n, .slice A l c] 24 (0, 0))).heap.size = w.heap.size + 1 by simp] at h
  exact h⟩
 have HC := Aside0.mk hc
 have H0 := Aside0.mk h0
 clear hc h0
 go_enter Try.func43, Try.ntmps43
 go_wp2_with fail
 generalize (w.alloc (.cells #[.int .i64 n, .slice A l c] 24 (0, 0))).alloc (.cells #[.slice Ar m cr] 26 (0, 0)) = w1 at HB HX HY ⊢
 have hk : ∀ W, (callFunc 54 #[.pointer (some ⟨w.heap.size, 0, none⟩), .pointer (some ⟨w.heap.size + 1, 0, none⟩)]).run Try.prog W = .ok (.enter 54 #[.pointer (some ⟨w.heap.size, 0, none⟩), .pointer (some ⟨w.heap.size + 1, 0, none⟩)]) W := fun W => by kernel_rfl
 have hb1 := wCaught_below w1
 have hcl := check1_calls res n A l c Ar m cr w.heap.size (w.heap.size + 1) (wCaught w1) H0.out (fun w' hw' => HC.out w' (HB.out.trans ((hb1.trans (hw'.mono hb1.size)).mono HB.out.size))) ((hb1.block _ (lt_of HX.out)).trans HX.out) ((hb1.block _ (lt_of HY.out)).trans HY.out)
 have hgp : ∀ w2, Below (wCaught w1).heap.size (wCaught w1) w2 → w2.heap[w1.heap.size]? = some (.cells #[.int .i64 0] 3 (0, 0)) ∧ w2.heap[w1.heap.size + 1]? = some (.cells #[.int .i64 0] 43 (0, 0)) := fun w2 h2 => ⟨(h2.block _ (by rw [wCaught_size]; omega)).trans (wCaught_own w1).1, (h2.block _ (by rw [wCaught_size]; omega)).trans (wCaught_own w1).2⟩
 have hfin : ∀ w2 w', Below (wCaught w1).heap.size (wCaught w1) w2 → Two w1 w2 w' → Below w.heap.size w w' := fun w2 w' h2 h3 => by
  have h4 := hb1.trans (h2.mono hb1.size)
  have h5 : Below w1.heap.size w2 w' := h3.below h4.size (fun k hk => by omega)
  exact HB.out.trans ((h4.trans h5).mono HB.out.size)
 have HFIN := Aside0.mk hfin
 rcases H0.out with rfl | hne
 ·refine (caught_ok 54 _ w1 _ hk (hcl.mono fun z w2 h => ⟨h.1, h.2⟩) hgp).mono ?_
  rintro z w' ⟨rfl, w2, h2, h3⟩
  have HE := Aside0.mk (HFIN.out w2 w' h2 h3)
  clear h2 h3 hgp hfin hcl hb1 hk HC
  go_wp2_with fail
  go_ret2
  exact ⟨rfl, HE.out⟩
 ·refine (caught_fault 54 _ w1 res.1 res.2 _ hk (hcl.mono fun z w2 h => ⟨by have := h.1; unfold Gave at this; rw [if_neg hne] at this; exact this, h.2⟩) hgp).mono ?_
  rintro z w' ⟨rfl, w2, h2, h3⟩
  have HE := Aside0.mk (HFIN.out w2 w' h2 h3)
  clear h2 h3 hgp hfin hcl hb1 hk HC hne
  go_wp2_with fail
  go_ret2
  exact ⟨rfl, HE.out⟩
end Rot
end Go.Proofs.Ytaepieadbfndnaa
namespace Go.Proofs.Ytaepieadbfndnaa.Sets
def gt (l : List Nat) (i : Nat) : Nat := l.getD i 0
structure Rep (P m : List Nat) : Prop where
 len : P.length = m.length
 le : ∀ i, i < m.length → (gt P i) ≤ i
 same : ∀ i, i < m.length → (gt m ((gt P i))) = (gt m i)
 fix : ∀ i, i < m.length → ((gt P i) = i ↔ (gt m i) = i)
theorem getD_set (l : List Nat) (i j x : Nat) : (gt (l.set i x) j) = if i = j ∧ j < l.length then x else (gt l j) := by
 unfold gt
 simp only [List.getD_eq_getElem?_getD, List.getElem?_set]
 by_cases h : i = j
 ·subst h
  by_cases h2 : i < l.length
  ·simp [h2]
  ·simp [h2]
 ·simp [h]
theorem Rep.least {P m : List Nat} (h : Rep P m) : ∀ (k i : Nat), i ≤ k → i < m.length → (gt m i) ≤ i ∧ (gt m ((gt m i))) = (gt m i) := by
 intro k
 induction k with
 | zero =>
  intro i hk hi
  obtain rfl : i = 0 := by omega
  have e : (gt P 0) = 0 := by have := h.le 0 hi; omega
  have e2 := (h.fix 0 hi).1 e
  rw [e2]; exact ⟨Nat.le_refl _, e2⟩
 | succ k ih =>
  intro i hk hi
  by_cases e : (gt P i) = i
  ·have e2 := (h.fix i hi).1 e
   rw [e2]; exact ⟨Nat.le_refl _, e2⟩
  ·have hl := h.le i hi
   have := ih ((gt P i)) (by omega) (by omega)
   rw [h.same i hi] at this
   exact ⟨by omega, this.2⟩
theorem Rep.ml {P m : List Nat} (h : Rep P m) {i : Nat} (hi : i < m.length) : (gt m i) ≤ i := (h.least i i (Nat.le_refl _) hi).1
theorem Rep.mm {P m : List Nat} (h : Rep P m) {i : Nat} (hi : i < m.length) : (gt m ((gt m i))) = (gt m i) := (h.least i i (Nat.le_refl _) hi).2
theorem Rep.halve {P m : List Nat} (h : Rep P m) {a : Nat} (ha : a < m.length) (hne : (gt P a) ≠ a) : Rep (P.set a ((gt P ((gt P a))))) m := by
 have hpa := h.le a ha
 have hp : (gt P a) < m.length := by omega
 have hpp := h.le _ hp
 refine ⟨by simp [h.len], ?_, ?_, ?_⟩
 ·intro i hi
  rw [getD_set]; split
  ·omega
  ·exact h.le i hi
 ·intro i hi
  rw [getD_set]; split
  ·rename_i c; obtain ⟨rfl, _⟩ := c; rw [h.same _ hp, h.same _ ha]
  ·exact h.same i hi
 ·intro i hi
  rw [getD_set]; split
  ·rename_i c; obtain ⟨rfl, _⟩ := c
   constructor
   ·intro e; omega
   ·intro e; exact absurd ((h.fix _ ha).2 e) hne
  ·exact h.fix i hi
theorem getD_map (f : Nat → Nat) (l : List Nat) {i : Nat} (h : i < l.length) : (gt (l.map f) i) = f ((gt l i)) := by
 simp [gt, List.getD_eq_getElem?_getD, h]
def glue (lo hi : Nat) (m : List Nat) : List Nat := m.map fun v => if v = hi then lo else v
theorem glue_length (lo hi : Nat) (m : List Nat) : (glue lo hi m).length = m.length := by simp [glue]
theorem glue_get (lo hi : Nat) (m : List Nat) {i : Nat} (h : i < m.length) : (gt (glue lo hi m) i) = if (gt m i) = hi then lo else (gt m i) := getD_map _ m h
theorem Rep.glue {P m : List Nat} (h : Rep P m) {lo hi : Nat} (hh : hi < m.length) (hl : lo < hi) (hlo : (gt m lo) = lo) (hhi : (gt m hi) = hi) : Rep (P.set hi lo) (Sets.glue lo hi m) := by
 have hPl := h.len
 refine ⟨by simp [glue_length, h.len], ?_, ?_, ?_⟩
 ·intro i hi'
  rw [glue_length] at hi'
  rw [getD_set]; split
  ·omega
  ·exact h.le i hi'
 ·intro i hi'
  rw [glue_length] at hi'
  have hp := h.le i hi'
  have hsame := h.same i hi'
  rw [getD_set]; split
  ·rename_i c; obtain ⟨rfl, _⟩ := c
   rw [glue_get _ _ _ (by omega), glue_get _ _ _ (by omega), hlo, hhi]; simp
  ·rw [glue_get _ _ _ (by omega), glue_get _ _ _ hi', hsame]
 ·intro i hi'
  rw [glue_length] at hi'
  have hfix := h.fix i hi'
  rw [getD_set, glue_get _ _ _ hi']; split
  ·rename_i c; obtain ⟨rfl, _⟩ := c
   rw [hhi]; simp
  ·rename_i c
   have hne : i ≠ hi := by intro e; exact c ⟨e.symm, by omega⟩
   rw [hfix]
   split
   ·rename_i e
    constructor
    ·intro e2; omega
    ·intro e2; rw [← e2, hlo] at e; omega
   ·exact Iff.rfl
theorem range_get {n i : Nat} (hi : i < n) : (gt (List.range n) i) = i := by simp [gt, List.getD_eq_getElem?_getD, hi]
theorem Rep.range (n : Nat) : Rep (List.range n) (List.range n) := by
 refine ⟨rfl, ?_, ?_, ?_⟩ <;> intro i hi <;> simp only [List.length_range] at hi
 ·rw [range_get hi]; exact Nat.le_refl _
 ·rw [range_get hi]; exact range_get hi
 ·exact Iff.rfl
def many (m : List Nat) (r : Nat) : Nat := m.countP fun v => v == r
def sets (m : List Nat) : Nat := (List.range m.length).countP fun i => (gt m i) == i
theorem many_glue_lo (lo hi : Nat) (m : List Nat) (h : lo ≠ hi) : many (glue lo hi m) lo = many m lo + many m hi := by
 induction m with
 | nil => rfl
 | cons a m ih =>
  simp only [many, glue, List.map_cons, List.countP_cons] at ih ⊢
  rw [ih]
  by_cases e : a = hi
  ·subst e; simp [Ne.symm h]; omega
  ·simp only [e, if_false]
   by_cases e2 : a = lo
   ·subst e2; simp [h]; omega
   ·simp [e2, e]
theorem many_glue_other (lo hi r : Nat) (m : List Nat) (h1 : r ≠ lo) (h2 : r ≠ hi) : many (glue lo hi m) r = many m r := by
 induction m with
 | nil => rfl
 | cons a m ih =>
  simp only [many, glue, List.map_cons, List.countP_cons] at ih ⊢
  rw [ih]
  by_cases e : a = hi
  ·subst e; simp [Ne.symm h1, Ne.symm h2]
  ·simp [e]
theorem countP_one {f g : Nat → Bool} {b : Nat} : ∀ (l : List Nat), l.Nodup → b ∈ l → (∀ i ∈ l, i ≠ b → f i = g i) → f b = false → g b = true → l.countP f + 1 = l.countP g := by
 intro l
 induction l with
 | nil => intro _ h; simp at h
 | cons a l ih =>
  intro hnd hb hfg h1 h2
  rw [List.nodup_cons] at hnd
  simp only [List.countP_cons]
  by_cases e : a = b
  ·subst e
   have : l.countP f = l.countP g := List.countP_congr fun i hi => by rw [hfg i (List.mem_cons_of_mem _ hi) (fun e => hnd.1 (e ▸ hi))]
   simp [this, h1, h2]
  ·have hb' : b ∈ l := by simpa [Ne.symm e] using hb
   have := ih hnd.2 hb' (fun i hi => hfg i (List.mem_cons_of_mem _ hi)) h1 h2
   rw [hfg a (List.mem_cons_self ..) e]; omega
theorem sets_glue' {m : List Nat} {lo hi : Nat} (hh : hi < m.length) (hl : lo < hi) (hlo : (gt m lo) = lo) (hhi : (gt m hi) = hi) : sets (Sets.glue lo hi m) + 1 = sets m := by
 unfold sets
 rw [glue_length]
 refine countP_one (b := hi) _ List.nodup_range (by simpa using hh) ?_ ?_ ?_
 ·intro i hi' hne
  have hi' : i < m.length := by simpa using hi'
  rw [glue_get _ _ _ hi', Bool.eq_iff_iff, beq_iff_eq, beq_iff_eq]
  split
  ·rename_i e
   constructor
   ·intro e2; rw [← e2, hlo] at e; omega
   ·intro e2; omega
  ·exact Iff.rfl
 ·rw [glue_get _ _ _ hh, hhi]; simp; omega
 ·simpa using hhi
theorem sets_glue {P m : List Nat} (h : Rep P m) {lo hi : Nat} (hh : hi < m.length) (hl : lo < hi) (hlo : gt m lo = lo) (hhi : gt m hi = hi) : sets (Sets.glue lo hi m) + 1 = sets m := sets_glue' hh hl hlo hhi
theorem many_le (m : List Nat) (r : Nat) : many m r ≤ m.length := List.countP_le_length
theorem sets_le (m : List Nat) : sets m ≤ m.length := by have := List.countP_le_length (l := List.range m.length) (p := fun i => (gt m i) == i); simpa [sets] using this
theorem many_pair (m : List Nat) {r s : Nat} (h : r ≠ s) : many m r + many m s ≤ m.length := by rw [← many_glue_lo r s m h]; have := many_le (glue r s m) r; rwa [glue_length] at this
structure Sized (S m : List Nat) : Prop where
 len : S.length = m.length
 size : ∀ r, r < m.length → (gt m r) = r → (gt S r) = many m r
theorem Sized.glue {S m : List Nat} (h : Sized S m) {lo hi : Nat} (hh : hi < m.length) (hl : lo < hi) (hlo : (gt m lo) = lo) (hhi : (gt m hi) = hi) : Sized (S.set lo ((gt S lo) + (gt S hi))) (Sets.glue lo hi m) := by
 have hSl := h.len
 refine ⟨by simp [glue_length, h.len], ?_⟩
 intro r hr hrr
 rw [glue_length] at hr
 rw [glue_get _ _ _ hr] at hrr
 rw [getD_set]; split
 ·rename_i c; obtain ⟨rfl, _⟩ := c
  rw [h.size _ hr hlo, h.size _ hh hhi, many_glue_lo _ _ _ (by omega)]
 ·rename_i c
  have hne : r ≠ lo := by intro e; exact c ⟨e.symm, by omega⟩
  have hne2 : r ≠ hi := by
   intro e; subst e; rw [hhi] at hrr; simp at hrr; omega
  rw [many_glue_other _ _ _ _ hne hne2]
  split at hrr
  ·omega
  ·exact h.size r hr hrr
theorem many_range {n r : Nat} (h : r < n) : many (List.range n) r = 1 := by
 unfold many
 rw [show (fun v => v == r) = (· == r) from rfl]
 have : List.count r (List.range n) = 1 := List.nodup_range.count (a := r) ▸ by simp [h]
 simpa [List.count] using this
theorem Sized.ones (n : Nat) : Sized (List.replicate n 1) (List.range n) := by
 refine ⟨by simp, ?_⟩
 intro r hr _
 have hr' : r < n := by simpa using hr
 rw [many_range hr']; simp [gt, List.getD_eq_getElem?_getD, hr']
theorem sets_range (n : Nat) : sets (List.range n) = n := by
 unfold sets
 have : (List.range (List.range n).length).countP (fun i => (gt (List.range n) i) == i) = (List.range (List.range n).length).length := by
  rw [List.countP_eq_length]; intro i hi; rw [List.length_range, List.mem_range] at hi; rw [range_get hi]; simp
 rw [this]; simp
end Go.Proofs.Ytaepieadbfndnaa.Sets
namespace Go.Proofs.Ytaepieadbfndnaa
open Go.RowKit Go.Proofs.YtaepieadbfndnaaW.PrintWords Go.Proofs.YtaepieadbfndnaaW.PrintLast Go.Proofs.YtaepieadbfndnaaW.PrintMore
attribute [local go_sem] max2_int min2_int max_two min_two
namespace Sets
structure Frame (S : Nat → Prop) (w w' : World) : Prop where
 os : w'.os = w.os
 tape : w'.tape = w.tape
 output : w'.output = w.output
 size : w.heap.size ≤ w'.heap.size
 block : ∀ k, k < w.heap.size → ¬ S k → w'.heap[k]? = w.heap[k]?
theorem Frame.refl (S : Nat → Prop) (w : World) : Frame S w w := ⟨rfl, rfl, rfl, Nat.le_refl _, fun _ _ _ => rfl⟩
theorem Frame.trans {S : Nat → Prop} {a b c : World} (h : Frame S a b) (k : Frame S b c) : Frame S a c :=
 ⟨k.os.trans h.os, k.tape.trans h.tape, k.output.trans h.output, Nat.le_trans h.size k.size, fun i hi hs => (k.block i (Nat.lt_of_lt_of_le hi h.size) hs).trans (h.block i hi hs)⟩
theorem Frame.mono {S T : Nat → Prop} {a b : World} (h : Frame S a b) (hst : ∀ k, S k → T k) : Frame T a b := ⟨h.os, h.tape, h.output, h.size, fun i hi hs => h.block i hi (fun e => hs (hst i e))⟩
theorem Frame.drew {S : Nat → Prop} {a b : World} (h : Frame S a b) : Frame S a b.drew := ⟨h.os, h.tape, h.output, h.size, h.block⟩
theorem Frame.drewN {S : Nat → Prop} {a b : World} (h : Frame S a b) (n : Nat) : Frame S a (b.drewN n) := ⟨h.os, h.tape, h.output, h.size, h.block⟩
theorem Frame.setCell {S : Nat → Prop} {a b : World} (h : Frame S a b) {p : Addr} (hp : S p.block) (u : Value) : Frame S a (b.setCell p u) :=
 h.trans ⟨rfl, rfl, rfl, by simp [World.setCell], fun k _ hs => Below.heap_setCell _ _ _ _ (fun e => hs (e ▸ hp))⟩
theorem Frame.alloc {S : Nat → Prop} {a b : World} (h : Frame S a b) (o : Obj) : Frame S a (b.alloc o) :=
 h.trans ⟨rfl, rfl, rfl, by simp, fun k hk _ => Below.heap_alloc _ _ _ hk⟩
theorem Frame.below {S : Nat → Prop} {a b : World} (h : Frame S a b) {B : Nat} (hB : B ≤ a.heap.size) (hS : ∀ k, S k → B ≤ k) : Below B a b :=
 ⟨h.os, h.tape, h.output, h.size, fun k hk => h.block k (by omega) (fun e => by have := hS k e; omega)⟩
theorem Frame.blk {S : Nat → Prop} {a b : World} (h : Frame S a b) {k : Nat} {o : Obj} (hk : a.heap[k]? = some o) (hs : ¬ S k) : b.heap[k]? = some o := by
 rw [h.block k (by rw [Array.getElem?_eq_some_iff] at hk; exact hk.1) hs]; exact hk
def nv (l : List Nat) : Array Value := (l.map fun (x : Nat) => Value.int .i64 (x : Int)).toArray
theorem nv_get (l : List Nat) (i : Nat) (h : i < l.length) : (nv l)[i]? = some (.int .i64 (((gt l i) : Nat) : Int)) := by
 simp [nv, gt, List.getD_eq_getElem?_getD, h]
theorem nv_set (l : List Nat) (i x : Nat) : (nv l).setIfInBounds i (.int .i64 (x : Int)) = nv (l.set i x) := by
 simp [nv, List.map_set]
theorem blk_lt {w : World} {k : Nat} {o : Obj} (hk : w.heap[k]? = some o) : k < w.heap.size := by
 rw [Array.getElem?_eq_some_iff] at hk; exact hk.1
theorem blk_setCell {w : World} {b i : Nat} {c : Array Value} {T : TypeId} {f : Nat × Nat} (h : w.heap[b]? = some (.cells c T f)) (v : Value) : (w.setCell ⟨b, i, none⟩ v).heap[b]? = some (.cells (c.setIfInBounds i v) T f) := by
 simp [World.setCell, Array.getElem?_modify, h]
theorem nv_cell {w : World} {b : Nat} {l : List Nat} {T : TypeId} {f : Nat × Nat} (h : w.heap[b]? = some (.cells (nv l) T f)) {i : Nat} (hi : i < l.length) : w.cell? ⟨b, i, none⟩ = some (.int .i64 (((gt l i) : Nat) : Int)) := by
 simp [World.cell?, h, nv_get l i hi]
theorem blk_free {w : World} {b : Nat} {c : Array Value} {T : TypeId} (h : w.heap[b]? = some (.cells c T (0, 0))) (i : Nat) : w.frozen? ⟨b, i, none⟩ = false := by
 simp [World.frozen?, h]
theorem blk_set_nv {w : World} {b i x : Nat} {l : List Nat} {T : TypeId} {f : Nat × Nat} (h : w.heap[b]? = some (.cells (nv l) T f)) : (w.setCell ⟨b, i, none⟩ (.int .i64 (x : Int))).heap[b]? = some (.cells (nv (l.set i x)) T f) := by
 rw [blk_setCell h, nv_set]
theorem known_calls (A : Option Addr) (n c : Nat) (a : Int) (w : World) :
  Calls Try.prog 70 #[.slice A n c, .int .i64 a] w fun e w' => e = .returned (.bool (decide (0 ≤ a) && decide (a < (n : Int)))) ∧ w = w' := by
 by_cases h : 0 ≤ a
 ·have h1 : decide (0 ≤ a) = true := decide_eq_true h
  go_enter Try.func70, Try.ntmps70
  go_wp2
  go_ret
  exact ⟨by simp [h], rfl⟩
 ·have h1 : decide (0 ≤ a) = false := decide_eq_false h
  go_enter Try.func70, Try.ntmps70
  go_wp2
  go_ret
  exact ⟨by simp, rfl⟩
def Climbed (b : Nat) (T : TypeId) (m : List Nat) (w w' : World) : Prop := ∃ P, Rep P m ∧ w'.heap[b]? = some (.cells (nv P) T (0, 0)) ∧ Frame (· = b) w w'
theorem root_calls (b n c a : Nat) (T : TypeId) (P m : List Nat) (w : World) (hb : w.heap[b]? = some (.cells (nv P) T (0, 0))) (hr : Rep P m) (ha : a < m.length) (hn : n = m.length) (hm : m.length ≤ 1048576) :
  Calls Try.prog 69 #[.slice (some ⟨b, 0, none⟩) n c, .int .i64 (a : Int)] w fun e w' => e = .returned (.int .i64 (((gt m a) : Nat) : Int)) ∧ Climbed b T m w w' := by
 subst hn
 have HB := Aside0.mk hb
 have HR := Aside0.mk hr
 clear hb hr
 go_enter Try.func69, Try.ntmps69
 go_wp2
 go_loopw [1] (fun v wr => ∃ (i : Nat) (Q : List Nat), v = .int .i64 (i : Int) ∧ i < m.length ∧ Aside0 ((gt m i) = (gt m a)) ∧ Aside0 (Rep Q m) ∧ Aside0 (wr.heap[b]? = some (.cells (nv Q) T (0, 0))) ∧ Aside0 (Frame (· = b) w wr)) (fun v _ => (intOf v).toNat)
 case atStart => exact ⟨a, P, rfl, ha, ⟨rfl⟩, HR, HB, ⟨Frame.refl _ _⟩⟩
 case round =>
  obtain ⟨i, Q, rfl, hi, HE, HQ, HBQ, HF⟩ := hrel
  have hlen : Q.length = m.length := HQ.out.len
  have hc0 := nv_cell HBQ.out (i := i) (by omega)
  by_cases hq : (gt Q i) = i
  ·have ht : ((((gt Q i) : Nat) : Int) != (i : Int)) = false := by simp [hq]
   have HQ2 := Aside0.mk hq
   clear hq hlen
   go_wp2
   go_ret
   have e : i = gt m a := by rw [← HE.out]; exact ((HQ.out.fix i hi).1 HQ2.out).symm
   exact ⟨by rw [← e]; rfl, Q, HQ.out, HBQ.out, HF.out⟩
  ·have ht : ((((gt Q i) : Nat) : Int) != (i : Int)) = true := by simp; omega
   have hle := HQ.out.le i hi
   have hc1 := nv_cell HBQ.out (i := (gt Q i)) (by omega)
   have hf0 := blk_free HBQ.out i
   have HQ2 := Aside0.mk hq
   have HL := Aside0.mk hlen
   clear hq hlen
   have hi2 : gt Q i < m.length := by omega
   go_wp2
   have hi3 := HQ.out.le (gt Q i) hi2
   go_roundw
   case rel => exact ⟨gt Q (gt Q i), Q.set i (gt Q (gt Q i)), rfl, by omega, ⟨by rw [HQ.out.same _ hi2, HQ.out.same _ hi]; exact HE.out⟩, ⟨HQ.out.halve hi HQ2.out⟩, ⟨blk_set_nv HBQ.out⟩, ⟨HF.out.setCell rfl _⟩⟩
   case measure => have := HQ2.out; simp [intOf]; omega
end Sets
namespace Sets
structure AtPS (w : World) (p bP bS : Nat) (m P S : List Nat) : Prop where
 obj : w.heap[p]? = some (.cells #[.slice (some ⟨bP, 0, none⟩) m.length m.length, .slice (some ⟨bS, 0, none⟩) m.length m.length, .int .i64 ((sets m : Nat) : Int)] 117 (0, 0))
 par : w.heap[bP]? = some (.cells (nv P) 3 (0, 0))
 siz : w.heap[bS]? = some (.cells (nv S) 3 (0, 0))
 ne1 : p ≠ bP
 ne2 : p ≠ bS
 ne3 : bP ≠ bS
 small : m.length ≤ 1048576
 rep : Rep P m
 sized : Sized S m
def At (w : World) (p bP bS : Nat) (m : List Nat) : Prop := ∃ P S, AtPS w p bP bS m P S
def Own (p bP bS : Nat) (k : Nat) : Prop := k = p ∨ k = bP ∨ k = bS
def Now (p bP bS : Nat) (m : List Nat) (w w' : World) : Prop := At w' p bP bS m ∧ Frame (Own p bP bS) w w'
def ok (m : List Nat) (a : Int) : Bool := decide (0 ≤ a) && decide (a < (m.length : Int))
theorem ok_nat {m : List Nat} {a : Int} (h : ok m a = true) : ∃ i : Nat, a = (i : Int) ∧ i < m.length := by
 simp only [ok, Bool.and_eq_true, decide_eq_true_eq] at h
 exact ⟨a.toNat, by omega, by omega⟩
theorem ok_of {m : List Nat} {i : Nat} (h : i < m.length) : ok m (i : Int) = true := by
 simp only [ok, Bool.and_eq_true, decide_eq_true_eq]; omega
theorem AtPS.cell0 {w : World} {p bP bS : Nat} {m P S : List Nat} (h : AtPS w p bP bS m P S) : w.cell? ⟨p, 0, none⟩ = some (.slice (some ⟨bP, 0, none⟩) m.length m.length) := (blk_cell h.obj 0).trans rfl
theorem AtPS.cell1 {w : World} {p bP bS : Nat} {m P S : List Nat} (h : AtPS w p bP bS m P S) : w.cell? ⟨p, 1, none⟩ = some (.slice (some ⟨bS, 0, none⟩) m.length m.length) := (blk_cell h.obj 1).trans rfl
theorem AtPS.cell2 {w : World} {p bP bS : Nat} {m P S : List Nat} (h : AtPS w p bP bS m P S) : w.cell? ⟨p, 2, none⟩ = some (.int .i64 ((sets m : Nat) : Int)) := (blk_cell h.obj 2).trans rfl
theorem AtPS.climbed {w w' : World} {p bP bS : Nat} {m P S : List Nat} (h : AtPS w p bP bS m P S) (k : Climbed bP 3 m w w') : ∃ Q, AtPS w' p bP bS m Q S ∧ Frame (Own p bP bS) w w' := by
 obtain ⟨Q, hr, hb, hf⟩ := k
 exact ⟨Q, ⟨hf.blk h.obj h.ne1, hb, hf.blk h.siz (Ne.symm h.ne3), h.ne1, h.ne2, h.ne3, h.small, hr, h.sized⟩, hf.mono fun _ e => .inr (.inl e)⟩
theorem AtPS.drewN {w : World} {p bP bS : Nat} {m P S : List Nat} (h : AtPS w p bP bS m P S) (n : Nat) : AtPS (w.drewN n) p bP bS m P S := ⟨h.obj, h.par, h.siz, h.ne1, h.ne2, h.ne3, h.small, h.rep, h.sized⟩
theorem AtPS.drew {w : World} {p bP bS : Nat} {m P S : List Nat} (h : AtPS w p bP bS m P S) : AtPS w.drew p bP bS m P S := ⟨h.obj, h.par, h.siz, h.ne1, h.ne2, h.ne3, h.small, h.rep, h.sized⟩
theorem has_calls (p bP bS : Nat) (m P S : List Nat) (a : Int) (w : World) (h : AtPS w p bP bS m P S) :
  Calls Try.prog 68 #[.pointer (some ⟨p, 0, none⟩), .int .i64 a] w fun e w' => e = .returned (.bool (ok m a)) ∧ w = w' := by
 have h0 := h.cell0
 clear h
 go_enter Try.func68, Try.ntmps68
 go_wp2_with (go_at_call 70; refine (known_calls _ _ _ _ _).mono ?_; rintro e w' ⟨rfl, rfl⟩)
 go_ret
 exact ⟨rfl, rfl⟩
theorem has_keep {p bP bS : Nat} {m P S : List Nat} {a : Int} {r : Bool} (hr : ok m a = r) (w : World) (h : AtPS w p bP bS m P S) :
  Calls Try.prog 68 #[.pointer (some ⟨p, 0, none⟩), .int .i64 a] w fun e w' => e = .returned (.bool r) ∧ w = w' :=
 (has_calls p bP bS m P S a w h).mono fun _ _ ⟨h1, h2⟩ => ⟨by rw [h1, hr], h2⟩
def leastOf (m : List Nat) (a : Int) : Int := if ok m a then ((gt m a.toNat : Nat) : Int) else -1
end Sets
namespace Sets
def sameOf (m : List Nat) (a b : Int) : Bool := ok m a && ok m b && (gt m a.toNat == gt m b.toNat)
def sizeOf (m : List Nat) (a : Int) : Int := if ok m a then ((many m (gt m a.toNat) : Nat) : Int) else 0
def joinOf (m : List Nat) (a b : Int) : List Nat × Bool :=
 if (ok m a && ok m b && (gt m a.toNat != gt m b.toNat)) = true then (glue (min (gt m a.toNat) (gt m b.toNat)) (max (gt m a.toNat) (gt m b.toNat)) m, true) else (m, false)
end Sets
namespace Sets
theorem joinOf_no {m : List Nat} {a b : Int} (h : (ok m a && ok m b && (gt m a.toNat != gt m b.toNat)) = false) : joinOf m a b = (m, false) := by
 unfold joinOf; rw [h]; rfl
theorem join_no (p bP bS : Nat) (m P S : List Nat) (a b : Int) (w : World) (h : AtPS w p bP bS m P S) (hno : (ok m a && ok m b) = false) :
  Calls Try.prog 66 #[.pointer (some ⟨p, 0, none⟩), .int .i64 a, .int .i64 b] w fun e w' => e = .returned (.bool (joinOf m a b).2) ∧ Now p bP bS (joinOf m a b).1 w w' := by
 have H := Aside0.mk h
 clear h
 rw [joinOf_no (by rw [hno]; rfl)]
 cases ha : ok m a
 ·have Q1 := Aside0.mk (fun W => has_keep (p := p) (bP := bP) (bS := bS) (P := P) (S := S) ha W)
  clear ha hno
  go_enter Try.func66, Try.ntmps66
  go_wp2_with (go_at_call 68; refine (Q1.out _ H.out).mono ?_; rintro e w' ⟨rfl, rfl⟩)
  go_ret
  exact ⟨rfl, ⟨P, S, H.out⟩, Frame.refl _ _⟩
 ·have hb : ok m b = false := by rw [ha] at hno; simpa using hno
  obtain ⟨i, rfl, hi⟩ := ok_nat ha
  have Q1 := Aside0.mk (fun W => has_keep (p := p) (bP := bP) (bS := bS) (P := P) (S := S) ha W)
  have Q2 := Aside0.mk (fun W => has_keep (p := p) (bP := bP) (bS := bS) (P := P) (S := S) hb W)
  clear ha hb hno
  go_enter Try.func66, Try.ntmps66
  go_wp2_with (go_at_call 68; (first | (with_reducible refine (Q1.out _ H.out).mono ?_) | (with_reducible refine (Q2.out _ H.out).mono ?_)); rintro e w' ⟨rfl, rfl⟩)
  go_ret
  exact ⟨rfl, ⟨P, S, H.out⟩, Frame.refl _ _⟩
theorem join_same (p bP bS : Nat) (m P S : List Nat) (i j : Nat) (w : World) (h : AtPS w p bP bS m P S) (hi : i < m.length) (hj : j < m.length) (hs : gt m i = gt m j) :
  Calls Try.prog 66 #[.pointer (some ⟨p, 0, none⟩), .int .i64 (i : Int), .int .i64 (j : Int)] w fun e w' => e = .returned (.bool (joinOf m i j).2) ∧ Now p bP bS (joinOf m i j).1 w w' := by
 have H := Aside0.mk h
 clear h
 rw [joinOf_no (by simp [hs])]
 have Q1 := Aside0.mk (fun W => has_keep (p := p) (bP := bP) (bS := bS) (P := P) (S := S) (ok_of hi) W)
 have Q2 := Aside0.mk (fun W => has_keep (p := p) (bP := bP) (bS := bS) (P := P) (S := S) (ok_of hj) W)
 have ht : ((gt m i : Int) == (gt m j : Int)) = true := by rw [hs]; simp
 clear hs
 go_enter Try.func66, Try.ntmps66
 go_wp2_with (go_at_call 68; (first | (with_reducible refine (Q1.out _ H.out).mono ?_) | (with_reducible refine (Q2.out _ H.out).mono ?_)); rintro e w' ⟨rfl, rfl⟩)
 refine start_ (n := 14) (S := fun w' => w'.cell? ⟨p, 0, none⟩ = some (.slice (some ⟨bP, 0, none⟩) m.length m.length) ∧ Aside0 (At w' p bP bS m) ∧ Aside0 (Frame (Own p bP bS) w w')) (ds := []) (bm9 14 0) (by kernel_rfl) rfl rfl ⟨H.out.drew.cell0, ⟨⟨P, S, H.out.drew⟩⟩, ⟨(Frame.refl _ _).drew⟩⟩ (fun hHeld => ?_)
 refine pu9 0 19 (bm9 14 1) ?_
 refine pu9 1 20 (bm9 14 3) ?_
 refine pu9 2 21 (bm9 14 7) ?_
 refine pu9 4 23 (bm9 14 23) ?_
 refine pu9 6 25 (bm9 14 87) ?_
 refine pu9 7 26 (bm9 14 215) ?_
 refine pu9 8 27 (bm9 14 471) ?_
 refine pu9 10 29 (bm9 14 1495) ?_
 refine tk39 3 22 (bm9 14 1503) hHeld ?_
 refine tk39 9 28 (bm9 14 2015) hHeld ?_
 refine one_ (i := 5) (N := some 24) (bm9 14 2047) rfl rfl (by kernel_rfl) (by decide) (fun K hK => ?_)
 obtain ⟨h0, HA, HF⟩ := hHeld
 obtain ⟨P1, S1, H1⟩ := HA.out
 refine goes_ Try.func69 (by kernel_rfl) rfl #[.slice (some ⟨bP, 0, none⟩) m.length m.length, .int .i64 (i : Int)] (by rfl) rfl rfl (by simp only [List.map_toArray, List.map_cons, List.map_nil]; rfl) ?_
 with_reducible refine (root_calls bP m.length m.length i _ P1 m _ H1.par H1.rep hi rfl H1.small).mono ?_
 rintro e w3 ⟨rfl, hc⟩
 refine ⟨_, rfl, ?_⟩
 obtain ⟨Q, h1, h2⟩ := H1.climbed hc
 clear hc
 refine hK.out _ _ ⟨h1.cell0, ⟨⟨Q, S1, h1⟩⟩, ⟨HF.out.trans h2⟩⟩ (fun hHeld => ?_)
 clear hK K
 refine nm9 ?_
 refine one_ (i := 11) (N := some 30) (bm9 14 4095) rfl rfl (by kernel_rfl) (by decide) (fun K hK => ?_)
 obtain ⟨h0, HA, HF⟩ := hHeld
 obtain ⟨P1, S1, H1⟩ := HA.out
 refine goes_ Try.func69 (by kernel_rfl) rfl #[.slice (some ⟨bP, 0, none⟩) m.length m.length, .int .i64 (j : Int)] (by rfl) rfl rfl (by simp only [List.map_toArray, List.map_cons, List.map_nil]; rfl) ?_
 with_reducible refine (root_calls bP m.length m.length j _ P1 m _ H1.par H1.rep hj rfl H1.small).mono ?_
 rintro e w3 ⟨rfl, hc⟩
 refine ⟨_, rfl, ?_⟩
 obtain ⟨Q, h1, h2⟩ := H1.climbed hc
 clear hc
 refine hK.out _ _ ⟨h1.cell0, ⟨⟨Q, S1, h1⟩⟩, ⟨HF.out.trans h2⟩⟩ (fun hHeld => ?_)
 clear hK K
 refine nm9 ?_
 refine pu9 12 7 (bm9 14 8191) ?_
 refine pu9 13 8 (bm9 14 16383) ?_
 refine done_ (by kernel_rfl) ?_
 obtain ⟨_, HA, HF⟩ := hHeld
 go_wp2
 go_ret
 exact ⟨rfl, HA.out, HF.out⟩
structure MidPS (w : World) (p bP bS n : Nat) (P S : List Nat) (c : Nat) : Prop where
 obj : w.heap[p]? = some (.cells #[.slice (some ⟨bP, 0, none⟩) n n, .slice (some ⟨bS, 0, none⟩) n n, .int .i64 (c : Int)] 117 (0, 0))
 par : w.heap[bP]? = some (.cells (nv P) 3 (0, 0))
 siz : w.heap[bS]? = some (.cells (nv S) 3 (0, 0))
 ne1 : p ≠ bP
 ne2 : p ≠ bS
 ne3 : bP ≠ bS
theorem heap_setCell_ne {w : World} {b i k : Nat} {v : Value} {o : Obj} (h : w.heap[k]? = some o) (hk : k ≠ b) : (w.setCell ⟨b, i, none⟩ v).heap[k]? = some o := by
 rw [Below.heap_setCell _ _ _ _ hk]; exact h
theorem AtPS.mid {w : World} {p bP bS : Nat} {m P S : List Nat} (h : AtPS w p bP bS m P S) : MidPS w p bP bS m.length P S (sets m) := ⟨h.obj, h.par, h.siz, h.ne1, h.ne2, h.ne3⟩
theorem MidPS.drew {w : World} {p bP bS n c : Nat} {P S : List Nat} (h : MidPS w p bP bS n P S c) : MidPS w.drew p bP bS n P S c := ⟨h.obj, h.par, h.siz, h.ne1, h.ne2, h.ne3⟩
theorem MidPS.setPar {w : World} {p bP bS n c : Nat} {P S : List Nat} (h : MidPS w p bP bS n P S c) (i x : Nat) : MidPS (w.setCell ⟨bP, i, none⟩ (.int .i64 (x : Int))) p bP bS n (P.set i x) S c :=
 ⟨heap_setCell_ne h.obj h.ne1, blk_set_nv h.par, heap_setCell_ne h.siz (Ne.symm h.ne3), h.ne1, h.ne2, h.ne3⟩
theorem MidPS.setSiz {w : World} {p bP bS n c : Nat} {P S : List Nat} (h : MidPS w p bP bS n P S c) (i x : Nat) : MidPS (w.setCell ⟨bS, i, none⟩ (.int .i64 (x : Int))) p bP bS n P (S.set i x) c :=
 ⟨heap_setCell_ne h.obj h.ne2, heap_setCell_ne h.par h.ne3, blk_set_nv h.siz, h.ne1, h.ne2, h.ne3⟩
theorem MidPS.setCount {w : World} {p bP bS n c : Nat} {P S : List Nat} (h : MidPS w p bP bS n P S c) (x : Nat) : MidPS (w.setCell ⟨p, 2, none⟩ (.int .i64 (x : Int))) p bP bS n P S x :=
 ⟨by rw [blk_setCell h.obj]; rfl, heap_setCell_ne h.par (Ne.symm h.ne1), heap_setCell_ne h.siz (Ne.symm h.ne2), h.ne1, h.ne2, h.ne3⟩
theorem MidPS.cell0 {w : World} {p bP bS n c : Nat} {P S : List Nat} (h : MidPS w p bP bS n P S c) : w.cell? ⟨p, 0, none⟩ = some (.slice (some ⟨bP, 0, none⟩) n n) := (blk_cell h.obj 0).trans rfl
theorem MidPS.cell1 {w : World} {p bP bS n c : Nat} {P S : List Nat} (h : MidPS w p bP bS n P S c) : w.cell? ⟨p, 1, none⟩ = some (.slice (some ⟨bS, 0, none⟩) n n) := (blk_cell h.obj 1).trans rfl
theorem MidPS.cell2 {w : World} {p bP bS n c : Nat} {P S : List Nat} (h : MidPS w p bP bS n P S c) : w.cell? ⟨p, 2, none⟩ = some (.int .i64 (c : Int)) := (blk_cell h.obj 2).trans rfl
theorem join_lt (p bP bS : Nat) (m P S : List Nat) (i j : Nat) (w : World) (h : AtPS w p bP bS m P S) (hi : i < m.length) (hj : j < m.length) (hlt : gt m i < gt m j) :
  Calls Try.prog 66 #[.pointer (some ⟨p, 0, none⟩), .int .i64 (i : Int), .int .i64 (j : Int)] w fun e w' => e = .returned (.bool true) ∧ Now p bP bS (glue (gt m i) (gt m j) m) w w' := by
 have H := Aside0.mk h
 have Q1 := Aside0.mk (fun W => has_keep (p := p) (bP := bP) (bS := bS) (P := P) (S := S) (ok_of hi) W)
 have Q2 := Aside0.mk (fun W => has_keep (p := p) (bP := bP) (bS := bS) (P := P) (S := S) (ok_of hj) W)
 have ht : ((gt m i : Int) == (gt m j : Int)) = false := by simp only [beq_eq_false_iff_ne]; omega
 have HL := Aside0.mk (h.rep.mm hi)
 have HH := Aside0.mk (h.rep.mm hj)
 have hlo : gt m i < m.length := by have := h.rep.ml hi; omega
 have hhi : gt m j < m.length := by have := h.rep.ml hj; omega
 have hsm := h.small
 clear h
 go_enter Try.func66, Try.ntmps66
 go_wp2_with (go_at_call 68; (first | (with_reducible refine (Q1.out _ H.out).mono ?_) | (with_reducible refine (Q2.out _ H.out).mono ?_)); rintro e w' ⟨rfl, rfl⟩)
 refine start_ (n := 14) (S := fun w' => w'.cell? ⟨p, 0, none⟩ = some (.slice (some ⟨bP, 0, none⟩) m.length m.length) ∧ Aside0 (At w' p bP bS m) ∧ Aside0 (Frame (Own p bP bS) w w')) (ds := []) (bm9 14 0) (by kernel_rfl) rfl rfl ⟨H.out.drew.cell0, ⟨⟨P, S, H.out.drew⟩⟩, ⟨(Frame.refl _ _).drew⟩⟩ (fun hHeld => ?_)
 refine pu9 0 19 (bm9 14 1) ?_
 refine pu9 1 20 (bm9 14 3) ?_
 refine pu9 2 21 (bm9 14 7) ?_
 refine pu9 4 23 (bm9 14 23) ?_
 refine pu9 6 25 (bm9 14 87) ?_
 refine pu9 7 26 (bm9 14 215) ?_
 refine pu9 8 27 (bm9 14 471) ?_
 refine pu9 10 29 (bm9 14 1495) ?_
 refine tk39 3 22 (bm9 14 1503) hHeld ?_
 refine tk39 9 28 (bm9 14 2015) hHeld ?_
 refine one_ (i := 5) (N := some 24) (bm9 14 2047) rfl rfl (by kernel_rfl) (by decide) (fun K hK => ?_)
 obtain ⟨h0, HA, HF⟩ := hHeld
 obtain ⟨P1, S1, H1⟩ := HA.out
 refine goes_ Try.func69 (by kernel_rfl) rfl #[.slice (some ⟨bP, 0, none⟩) m.length m.length, .int .i64 (i : Int)] (by rfl) rfl rfl (by simp only [List.map_toArray, List.map_cons, List.map_nil]; rfl) ?_
 with_reducible refine (root_calls bP m.length m.length i _ P1 m _ H1.par H1.rep hi rfl H1.small).mono ?_
 rintro e w3 ⟨rfl, hc⟩
 refine ⟨_, rfl, ?_⟩
 obtain ⟨Q, h1, h2⟩ := H1.climbed hc
 clear hc
 refine hK.out _ _ ⟨h1.cell0, ⟨⟨Q, S1, h1⟩⟩, ⟨HF.out.trans h2⟩⟩ (fun hHeld => ?_)
 clear hK K
 refine nm9 ?_
 refine one_ (i := 11) (N := some 30) (bm9 14 4095) rfl rfl (by kernel_rfl) (by decide) (fun K hK => ?_)
 obtain ⟨h0, HA, HF⟩ := hHeld
 obtain ⟨P1, S1, H1⟩ := HA.out
 refine goes_ Try.func69 (by kernel_rfl) rfl #[.slice (some ⟨bP, 0, none⟩) m.length m.length, .int .i64 (j : Int)] (by rfl) rfl rfl (by simp only [List.map_toArray, List.map_cons, List.map_nil]; rfl) ?_
 with_reducible refine (root_calls bP m.length m.length j _ P1 m _ H1.par H1.rep hj rfl H1.small).mono ?_
 rintro e w3 ⟨rfl, hc⟩
 refine ⟨_, rfl, ?_⟩
 obtain ⟨Q, h1, h2⟩ := H1.climbed hc
 clear hc
 refine hK.out _ _ ⟨h1.cell0, ⟨⟨Q, S1, h1⟩⟩, ⟨HF.out.trans h2⟩⟩ (fun hHeld => ?_)
 clear hK K
 refine nm9 ?_
 refine pu9 12 7 (bm9 14 8191) ?_
 refine pu9 13 8 (bm9 14 16383) ?_
 refine done_ (by kernel_rfl) ?_
 obtain ⟨h0, HA, HF⟩ := hHeld
 obtain ⟨P1, S1, H1⟩ := HA.out
 have H2 := Aside0.mk H1
 clear H1 HA H Q1 Q2
 have hf := blk_free H2.out.par (gt m j)
 have hol := nv_cell H2.out.par (i := gt m j) (by have := H2.out.rep.len; omega)
 have hpair := many_pair m (r := gt m i) (s := gt m j) (by omega)
 have HG := Aside0.mk (sets_glue H2.out.rep hhi hlt HL.out HH.out)
 have hsets := sets_le m
 go_wp2
 have M1 := Aside0.mk (H2.out.mid.setPar (gt m j) (gt m i))
 have hwr : IntKind.i64.wrap ((many m (gt m i) : Int) + (many m (gt m j) : Int)) = (many m (gt m i) : Int) + (many m (gt m j) : Int) := IntWalk.i64_in _ (by omega)
 refine start_ (n := 17) (S := fun w' => w'.cell? ⟨p, 1, none⟩ = some (.slice (some ⟨bS, 0, none⟩) m.length m.length) ∧ w'.cell? ⟨bS, gt m i, none⟩ = some (.int .i64 ((many m (gt m i) : Nat) : Int)) ∧ w'.cell? ⟨bS, gt m j, none⟩ = some (.int .i64 ((many m (gt m j) : Nat) : Int)) ∧ w'.frozen? ⟨bS, gt m i, none⟩ = false) (ds := [16]) (bm9 17 0) (by kernel_rfl) rfl rfl ⟨M1.out.drew.cell1, by rw [nv_cell M1.out.drew.siz (by have := H2.out.sized.len; omega), H2.out.sized.size _ hlo HL.out], by rw [nv_cell M1.out.drew.siz (by have := H2.out.sized.len; omega), H2.out.sized.size _ hhi HH.out], blk_free M1.out.drew.siz _⟩ (fun hHeld => ?_)
 refine pu9 0 47 (bm9 17 1) ?_
 refine pu9 1 48 (bm9 17 3) ?_
 refine pu9 2 49 (bm9 17 7) ?_
 refine pu9 4 51 (bm9 17 23) ?_
 refine pu9 7 54 (bm9 17 151) ?_
 refine pu9 8 55 (bm9 17 407) ?_
 refine pu9 9 56 (bm9 17 919) ?_
 refine pu9 11 58 (bm9 17 2967) ?_
 refine tk49 3 50 (bm9 17 2975) hHeld ?_
 refine pu9 5 52 (bm9 17 3007) ?_
 refine tk49 6 53 (bm9 17 3071) hHeld ?_
 refine tk49 10 57 (bm9 17 4095) hHeld ?_
 refine pu9 12 59 (bm9 17 8191) ?_
 refine tk49 13 60 (bm9 17 16383) hHeld ?_
 refine pu9 14 61 (bm9 17 32767) ?_
 refine pu9 15 62 (bm9 17 65535) ?_
 refine last_ (i := 16) (N := none) (bm9 17 131071) rfl rfl (by kernel_rfl) (by decide) (fun K hK => ?_)
 obtain ⟨h3, h4, h5, h6⟩ := hHeld
 refine skip_ (w1 := ?_) (by rfl) rfl ?_ ?_
 rotate_left
 ·go_simp
  rfl
 refine hK.out _ _ ?_
 clear hK K
 refine done_ (by kernel_rfl) ?_
 have M2 := Aside0.mk (M1.out.setSiz (gt m i) (many m (gt m i) + many m (gt m j))).drew
 clear hwr
 have e3 : (many m (gt m i) : Int) + (many m (gt m j) : Int) = ((many m (gt m i) + many m (gt m j) : Nat) : Int) := by omega
 rw [e3]
 have F2 := Aside0.mk (((HF.out.setCell (p := ⟨bP, gt m j, none⟩) (.inr (.inl rfl)) (.int .i64 ((gt m i : Nat) : Int)))).setCell (p := ⟨bS, gt m i, none⟩) (.inr (.inr rfl)) (.int .i64 ((many m (gt m i) + many m (gt m j) : Nat) : Int))).drew
 generalize (((w3.setCell ⟨bP, gt m j, none⟩ (.int .i64 ((gt m i : Nat) : Int)))).setCell ⟨bS, gt m i, none⟩ (.int .i64 ((many m (gt m i) + many m (gt m j) : Nat) : Int))).drew = w5 at M2 F2 ⊢
 clear e3
 have h9 := M2.out.cell2
 have h10 := blk_free M2.out.obj 2
 go_wp2
 go_ret
 have hg := HG.out
 have e4 : (sets m : Int) - 1 = ((sets (glue (gt m i) (gt m j) m) : Nat) : Int) := by omega
 have M3 := M2.out.setCount (sets (glue (gt m i) (gt m j) m))
 rw [← e4] at M3
 refine ⟨rfl, ⟨_, _, ⟨?_, M3.par, M3.siz, M3.ne1, M3.ne2, M3.ne3, ?_, H2.out.rep.glue hhi hlt HL.out HH.out, ?_⟩⟩, ?_⟩
 ·rw [glue_length]; exact M3.obj
 ·rw [glue_length]; exact hsm
 ·have := H2.out.sized.glue hhi hlt HL.out HH.out
  rwa [H2.out.sized.size _ hlo HL.out, H2.out.sized.size _ hhi HH.out] at this
 ·exact F2.out.setCell (p := ⟨p, 2, none⟩) (.inl rfl) _
theorem join_gt (p bP bS : Nat) (m P S : List Nat) (i j : Nat) (w : World) (h : AtPS w p bP bS m P S) (hi : i < m.length) (hj : j < m.length) (hlt : gt m j < gt m i) :
  Calls Try.prog 66 #[.pointer (some ⟨p, 0, none⟩), .int .i64 (i : Int), .int .i64 (j : Int)] w fun e w' => e = .returned (.bool true) ∧ Now p bP bS (glue (gt m j) (gt m i) m) w w' := by
 have H := Aside0.mk h
 have Q1 := Aside0.mk (fun W => has_keep (p := p) (bP := bP) (bS := bS) (P := P) (S := S) (ok_of hi) W)
 have Q2 := Aside0.mk (fun W => has_keep (p := p) (bP := bP) (bS := bS) (P := P) (S := S) (ok_of hj) W)
 have ht : ((gt m i : Int) == (gt m j : Int)) = false := by simp only [beq_eq_false_iff_ne]; omega
 have HL := Aside0.mk (h.rep.mm hj)
 have HH := Aside0.mk (h.rep.mm hi)
 have hlo : gt m j < m.length := by have := h.rep.ml hj; omega
 have hhi : gt m i < m.length := by have := h.rep.ml hi; omega
 have hsm := h.small
 clear h
 go_enter Try.func66, Try.ntmps66
 go_wp2_with (go_at_call 68; (first | (with_reducible refine (Q1.out _ H.out).mono ?_) | (with_reducible refine (Q2.out _ H.out).mono ?_)); rintro e w' ⟨rfl, rfl⟩)
 refine start_ (n := 14) (S := fun w' => w'.cell? ⟨p, 0, none⟩ = some (.slice (some ⟨bP, 0, none⟩) m.length m.length) ∧ Aside0 (At w' p bP bS m) ∧ Aside0 (Frame (Own p bP bS) w w')) (ds := []) (bm9 14 0) (by kernel_rfl) rfl rfl ⟨H.out.drew.cell0, ⟨⟨P, S, H.out.drew⟩⟩, ⟨(Frame.refl _ _).drew⟩⟩ (fun hHeld => ?_)
 refine pu9 0 19 (bm9 14 1) ?_
 refine pu9 1 20 (bm9 14 3) ?_
 refine pu9 2 21 (bm9 14 7) ?_
 refine pu9 4 23 (bm9 14 23) ?_
 refine pu9 6 25 (bm9 14 87) ?_
 refine pu9 7 26 (bm9 14 215) ?_
 refine pu9 8 27 (bm9 14 471) ?_
 refine pu9 10 29 (bm9 14 1495) ?_
 refine tk39 3 22 (bm9 14 1503) hHeld ?_
 refine tk39 9 28 (bm9 14 2015) hHeld ?_
 refine one_ (i := 5) (N := some 24) (bm9 14 2047) rfl rfl (by kernel_rfl) (by decide) (fun K hK => ?_)
 obtain ⟨h0, HA, HF⟩ := hHeld
 obtain ⟨P1, S1, H1⟩ := HA.out
 refine goes_ Try.func69 (by kernel_rfl) rfl #[.slice (some ⟨bP, 0, none⟩) m.length m.length, .int .i64 (i : Int)] (by rfl) rfl rfl (by simp only [List.map_toArray, List.map_cons, List.map_nil]; rfl) ?_
 with_reducible refine (root_calls bP m.length m.length i _ P1 m _ H1.par H1.rep hi rfl H1.small).mono ?_
 rintro e w3 ⟨rfl, hc⟩
 refine ⟨_, rfl, ?_⟩
 obtain ⟨Q, h1, h2⟩ := H1.climbed hc
 clear hc
 refine hK.out _ _ ⟨h1.cell0, ⟨⟨Q, S1, h1⟩⟩, ⟨HF.out.trans h2⟩⟩ (fun hHeld => ?_)
 clear hK K
 refine nm9 ?_
 refine one_ (i := 11) (N := some 30) (bm9 14 4095) rfl rfl (by kernel_rfl) (by decide) (fun K hK => ?_)
 obtain ⟨h0, HA, HF⟩ := hHeld
 obtain ⟨P1, S1, H1⟩ := HA.out
 refine goes_ Try.func69 (by kernel_rfl) rfl #[.slice (some ⟨bP, 0, none⟩) m.length m.length, .int .i64 (j : Int)] (by rfl) rfl rfl (by simp only [List.map_toArray, List.map_cons, List.map_nil]; rfl) ?_
 with_reducible refine (root_calls bP m.length m.length j _ P1 m _ H1.par H1.rep hj rfl H1.small).mono ?_
 rintro e w3 ⟨rfl, hc⟩
 refine ⟨_, rfl, ?_⟩
 obtain ⟨Q, h1, h2⟩ := H1.climbed hc
 clear hc
 refine hK.out _ _ ⟨h1.cell0, ⟨⟨Q, S1, h1⟩⟩, ⟨HF.out.trans h2⟩⟩ (fun hHeld => ?_)
 clear hK K
 refine nm9 ?_
 refine pu9 12 7 (bm9 14 8191) ?_
 refine pu9 13 8 (bm9 14 16383) ?_
 refine done_ (by kernel_rfl) ?_
 obtain ⟨h0, HA, HF⟩ := hHeld
 obtain ⟨P1, S1, H1⟩ := HA.out
 have H2 := Aside0.mk H1
 clear H1 HA H Q1 Q2
 have hf := blk_free H2.out.par (gt m i)
 have hol := nv_cell H2.out.par (i := gt m i) (by have := H2.out.rep.len; omega)
 have hpair := many_pair m (r := gt m j) (s := gt m i) (by omega)
 have HG := Aside0.mk (sets_glue H2.out.rep hhi hlt HL.out HH.out)
 have hsets := sets_le m
 go_wp2
 have M1 := Aside0.mk (H2.out.mid.setPar (gt m i) (gt m j))
 have hwr : IntKind.i64.wrap ((many m (gt m j) : Int) + (many m (gt m i) : Int)) = (many m (gt m j) : Int) + (many m (gt m i) : Int) := IntWalk.i64_in _ (by omega)
 refine start_ (n := 17) (S := fun w' => w'.cell? ⟨p, 1, none⟩ = some (.slice (some ⟨bS, 0, none⟩) m.length m.length) ∧ w'.cell? ⟨bS, gt m j, none⟩ = some (.int .i64 ((many m (gt m j) : Nat) : Int)) ∧ w'.cell? ⟨bS, gt m i, none⟩ = some (.int .i64 ((many m (gt m i) : Nat) : Int)) ∧ w'.frozen? ⟨bS, gt m j, none⟩ = false) (ds := [16]) (bm9 17 0) (by kernel_rfl) rfl rfl ⟨M1.out.drew.cell1, by rw [nv_cell M1.out.drew.siz (by have := H2.out.sized.len; omega), H2.out.sized.size _ hlo HL.out], by rw [nv_cell M1.out.drew.siz (by have := H2.out.sized.len; omega), H2.out.sized.size _ hhi HH.out], blk_free M1.out.drew.siz _⟩ (fun hHeld => ?_)
 refine pu9 0 47 (bm9 17 1) ?_
 refine pu9 1 48 (bm9 17 3) ?_
 refine pu9 2 49 (bm9 17 7) ?_
 refine pu9 4 51 (bm9 17 23) ?_
 refine pu9 7 54 (bm9 17 151) ?_
 refine pu9 8 55 (bm9 17 407) ?_
 refine pu9 9 56 (bm9 17 919) ?_
 refine pu9 11 58 (bm9 17 2967) ?_
 refine tk49 3 50 (bm9 17 2975) hHeld ?_
 refine pu9 5 52 (bm9 17 3007) ?_
 refine tk49 6 53 (bm9 17 3071) hHeld ?_
 refine tk49 10 57 (bm9 17 4095) hHeld ?_
 refine pu9 12 59 (bm9 17 8191) ?_
 refine tk49 13 60 (bm9 17 16383) hHeld ?_
 refine pu9 14 61 (bm9 17 32767) ?_
 refine pu9 15 62 (bm9 17 65535) ?_
 refine last_ (i := 16) (N := none) (bm9 17 131071) rfl rfl (by kernel_rfl) (by decide) (fun K hK => ?_)
 obtain ⟨h3, h4, h5, h6⟩ := hHeld
 refine skip_ (w1 := ?_) (by rfl) rfl ?_ ?_
 rotate_left
 ·go_simp
  rfl
 refine hK.out _ _ ?_
 clear hK K
 refine done_ (by kernel_rfl) ?_
 have M2 := Aside0.mk (M1.out.setSiz (gt m j) (many m (gt m j) + many m (gt m i))).drew
 clear hwr
 have e3 : (many m (gt m j) : Int) + (many m (gt m i) : Int) = ((many m (gt m j) + many m (gt m i) : Nat) : Int) := by omega
 rw [e3]
 have F2 := Aside0.mk (((HF.out.setCell (p := ⟨bP, gt m i, none⟩) (.inr (.inl rfl)) (.int .i64 ((gt m j : Nat) : Int)))).setCell (p := ⟨bS, gt m j, none⟩) (.inr (.inr rfl)) (.int .i64 ((many m (gt m j) + many m (gt m i) : Nat) : Int))).drew
 generalize (((w3.setCell ⟨bP, gt m i, none⟩ (.int .i64 ((gt m j : Nat) : Int)))).setCell ⟨bS, gt m j, none⟩ (.int .i64 ((many m (gt m j) + many m (gt m i) : Nat) : Int))).drew = w5 at M2 F2 ⊢
 clear e3
 have h9 := M2.out.cell2
 have h10 := blk_free M2.out.obj 2
 go_wp2
 go_ret
 have hg := HG.out
 have e4 : (sets m : Int) - 1 = ((sets (glue (gt m j) (gt m i) m) : Nat) : Int) := by omega
 have M3 := M2.out.setCount (sets (glue (gt m j) (gt m i) m))
 rw [← e4] at M3
 refine ⟨rfl, ⟨_, _, ⟨?_, M3.par, M3.siz, M3.ne1, M3.ne2, M3.ne3, ?_, H2.out.rep.glue hhi hlt HL.out HH.out, ?_⟩⟩, ?_⟩
 ·rw [glue_length]; exact M3.obj
 ·rw [glue_length]; exact hsm
 ·have := H2.out.sized.glue hhi hlt HL.out HH.out
  rwa [H2.out.sized.size _ hlo HL.out, H2.out.sized.size _ hhi HH.out] at this
 ·exact F2.out.setCell (p := ⟨p, 2, none⟩) (.inl rfl) _
theorem join_calls (p bP bS : Nat) (m P S : List Nat) (a b : Int) (w : World) (h : AtPS w p bP bS m P S) :
  Calls Try.prog 66 #[.pointer (some ⟨p, 0, none⟩), .int .i64 a, .int .i64 b] w fun e w' => e = .returned (.bool (joinOf m a b).2) ∧ Now p bP bS (joinOf m a b).1 w w' := by
 cases hk : ok m a && ok m b
 ·exact join_no p bP bS m P S a b w h hk
 ·rw [Bool.and_eq_true] at hk
  obtain ⟨i, rfl, hi⟩ := ok_nat hk.1
  obtain ⟨j, rfl, hj⟩ := ok_nat hk.2
  rcases Nat.lt_trichotomy (gt m i) (gt m j) with hlt | heq | hgt
  ·have e : joinOf m i j = (glue (gt m i) (gt m j) m, true) := by
    unfold joinOf
    rw [if_pos (by simp [hk.1, hk.2]; omega)]
    simp only [Int.toNat_natCast]
    rw [Nat.min_eq_left (by omega), Nat.max_eq_right (by omega)]
   rw [e]; exact join_lt p bP bS m P S i j w h hi hj hlt
  ·exact join_same p bP bS m P S i j w h hi hj heq
  ·have e : joinOf m i j = (glue (gt m j) (gt m i) m, true) := by
    unfold joinOf
    rw [if_pos (by simp [hk.1, hk.2]; omega)]
    simp only [Int.toNat_natCast]
    rw [Nat.min_eq_right (by omega), Nat.max_eq_left (by omega)]
   rw [e]; exact join_gt p bP bS m P S i j w h hi hj hgt
end Sets
namespace Sets
theorem info_int : (Try.prog.info? 3).map (fun i => (i.zero, i.size, i.bytes)) = some (some (.int .i64 0), 1, 8) := by kernel_rfl
theorem made_nv (n : Nat) : madeCells #[.int .i64 0] n = nv (List.replicate n 0) := by
 apply Array.ext
 ·simp [madeCells, nv]
 ·intro i h1 h2
  simp [madeCells, nv, Nat.mod_one]
theorem heap_last (w : World) (o : Obj) : (w.alloc o).heap[w.heap.size]? = some o := by
 show (w.heap.push o)[w.heap.size]? = _
 simp
theorem heap_old {w : World} {k : Nat} {o : Obj} (h : w.heap[k]? = some o) (o' : Obj) : (w.alloc o').heap[k]? = some o := by
 rw [Below.heap_alloc _ _ _ (blk_lt h)]; exact h
def upTo (k n : Nat) : List Nat := List.range k ++ List.replicate (n - k) 0
def onesTo (k n : Nat) : List Nat := List.replicate k 1 ++ List.replicate (n - k) 0
theorem upTo_zero (n : Nat) : upTo 0 n = List.replicate n 0 := by simp [upTo]
theorem onesTo_zero (n : Nat) : onesTo 0 n = List.replicate n 0 := by simp [onesTo]
theorem upTo_self (n : Nat) : upTo n n = List.range n := by simp [upTo]
theorem onesTo_self (n : Nat) : onesTo n n = List.replicate n 1 := by simp [onesTo]
theorem upTo_length {k n : Nat} (h : k ≤ n) : (upTo k n).length = n := by simp [upTo]; omega
theorem onesTo_length {k n : Nat} (h : k ≤ n) : (onesTo k n).length = n := by simp [onesTo]; omega
theorem set_end {α : Type} (l : List α) (z x : α) (k n : Nat) (hl : l.length = k) (h : k < n) : (l ++ List.replicate (n - k) z).set k x = l ++ [x] ++ List.replicate (n - (k + 1)) z := by
 obtain ⟨d, hd⟩ : ∃ d, n - k = d + 1 := ⟨n - k - 1, by omega⟩
 have hd2 : n - (k + 1) = d := by omega
 rw [hd, hd2, List.replicate_succ, List.set_append_right _ _ (by omega), hl, Nat.sub_self, List.set_cons_zero, List.append_assoc]; rfl
theorem upTo_set {k n : Nat} (h : k < n) : (upTo k n).set k k = upTo (k + 1) n := by
 unfold upTo; rw [set_end _ _ _ _ _ (by simp) h, List.range_succ]
theorem onesTo_set {k n : Nat} (h : k < n) : (onesTo k n).set k 1 = onesTo (k + 1) n := by
 unfold onesTo; rw [set_end _ _ _ _ _ (by simp) h, List.replicate_succ']
theorem new_start (w : World) (n x y : Nat) (hxy : (x = w.heap.size ∧ y = w.heap.size + 1) ∨ (x = w.heap.size + 1 ∧ y = w.heap.size)) :
  MidPS (((w.alloc (.cells (madeCells #[.int .i64 0] n) 3 (0, 0))).alloc (.cells (madeCells #[.int .i64 0] n) 3 (0, 0))).alloc (.cells #[.slice (some ⟨x, 0, none⟩) n n, .slice (some ⟨y, 0, none⟩) n n, .int .i64 (n : Int)] 117 (0, 0))).drew (w.heap.size + 1 + 1) x y n (upTo 0 n) (onesTo 0 n) n ∧
  Below w.heap.size w (((w.alloc (.cells (madeCells #[.int .i64 0] n) 3 (0, 0))).alloc (.cells (madeCells #[.int .i64 0] n) 3 (0, 0))).alloc (.cells #[.slice (some ⟨x, 0, none⟩) n n, .slice (some ⟨y, 0, none⟩) n n, .int .i64 (n : Int)] 117 (0, 0))).drew := by
 rw [upTo_zero, onesTo_zero]
 have e1 := heap_last w (.cells (nv (List.replicate n 0)) 3 (0, 0))
 have e2 := heap_last (w.alloc (.cells (nv (List.replicate n 0)) 3 (0, 0))) (.cells (nv (List.replicate n 0)) 3 (0, 0))
 rw [made_nv]
 have e3 := heap_last ((w.alloc (.cells (nv (List.replicate n 0)) 3 (0, 0))).alloc (.cells (nv (List.replicate n 0)) 3 (0, 0))) (.cells #[.slice (some ⟨x, 0, none⟩) n n, .slice (some ⟨y, 0, none⟩) n n, .int .i64 (n : Int)] 117 (0, 0))
 have s1 : (w.alloc (.cells (nv (List.replicate n 0)) 3 (0, 0))).heap.size = w.heap.size + 1 := by simp
 have s2 : ((w.alloc (.cells (nv (List.replicate n 0)) 3 (0, 0))).alloc (.cells (nv (List.replicate n 0)) 3 (0, 0))).heap.size = w.heap.size + 1 + 1 := by simp
 rw [s1] at e2
 rw [s2] at e3
 refine ⟨⟨e3, ?_, ?_, by omega, by omega, by omega⟩, ?_⟩
 ·rcases hxy with ⟨rfl, rfl⟩ | ⟨rfl, rfl⟩
  ·exact heap_old (heap_old e1 _) _
  ·exact heap_old e2 _
 ·rcases hxy with ⟨rfl, rfl⟩ | ⟨rfl, rfl⟩
  ·exact heap_old e2 _
  ·exact heap_old (heap_old e1 _) _
 ·exact ((((Below.refl _ _).alloc (Nat.le_refl _) _).alloc (by omega) _).alloc (by omega) _).drew
theorem new_yes (n : Nat) (w : World) (h : n ≤ 1048576) :
  Calls Try.prog 65 #[.int .i64 (n : Int)] w fun e w' => ∃ p bP bS, e = .returned (.tuple #[.pointer (some ⟨p, 0, none⟩), .int .i64 0]) ∧ w.heap.size ≤ p ∧ w.heap.size ≤ bP ∧ w.heap.size ≤ bS ∧ At w' p bP bS (List.range n) ∧ Below w.heap.size w w' := by
 have h0 : ¬ (n : Int) < 0 := by omega
 have h1 : ¬ (n : Int) > 1048576 := by omega
 have hle : (n : Int) ≤ 1048576 := by omega
 have mk1 := print_make (P := Try.prog) 115 3 .i64 8 Try.underlying115 info_int (by decide) n (by omega)
 have mk2 := print_make (P := Try.prog) 27 3 .i64 8 Try.underlying27 info_int (by decide) n (by omega)
 go_enter Try.func65, Try.ntmps65
 go_wp2
 go_region
 ·obtain ⟨M0, F0⟩ := new_start w n (w.heap.size) (w.heap.size + 1) (.inl ⟨rfl, rfl⟩)
  generalize (((w.alloc (.cells (madeCells #[.int .i64 0] n) 3 (0, 0))).alloc (.cells (madeCells #[.int .i64 0] n) 3 (0, 0))).alloc (.cells #[.slice (some ⟨w.heap.size, 0, none⟩) n n, .slice (some ⟨w.heap.size + 1, 0, none⟩) n n, .int .i64 (n : Int)] 117 (0, 0))).drew = w1 at M0 F0 ⊢
  have M := Aside0.mk M0
  have F := Aside0.mk F0
  clear M0 F0 mk1 mk2
  go_wp2
  go_loopw [20] (fun v wr => ∃ i : Nat, v = .int .i64 (i : Int) ∧ i ≤ n ∧ Aside0 (MidPS wr (w.heap.size + 1 + 1) (w.heap.size) (w.heap.size + 1) n (upTo i n) (onesTo i n) n) ∧ Aside0 (Below w.heap.size w wr)) (fun v _ => n - (intOf v).toNat)
  case atStart => exact ⟨0, rfl, by omega, M, F⟩
  case round =>
   clear M F
   obtain ⟨i, rfl, hi, M, F⟩ := hrel
   by_cases hlt : i < n
   ·have hlen := upTo_length hi
    have hlen2 := onesTo_length hi
    have M1 := Aside0.mk (M.out.setPar i i)
    have c1 := nv_cell M.out.par (i := i) (by omega)
    have f1 := blk_free M.out.par i
    have c2 := nv_cell M1.out.siz (i := i) (by omega)
    have f2 := blk_free M1.out.siz i
    have HL := Aside0.mk hlen
    have HL2 := Aside0.mk hlen2
    clear hlen hlen2
    go_wp2
    refine start_ (n := 15) (S := fun w' => w'.cell? ⟨w.heap.size + 1 + 1, 0, none⟩ = some (.slice (some ⟨w.heap.size, 0, none⟩) n n) ∧ w'.cell? ⟨w.heap.size + 1 + 1, 1, none⟩ = some (.slice (some ⟨w.heap.size + 1, 0, none⟩) n n)) (ds := [12, 14]) (bm9 15 0) (by kernel_rfl) rfl rfl ⟨M.out.drew.cell0, M.out.drew.cell1⟩ (fun hHeld => ?_)
    refine pu9 0 23 (bm9 15 1) ?_
    refine pu9 1 24 (bm9 15 3) ?_
    refine pu9 2 25 (bm9 15 7) ?_
    refine pu9 4 27 (bm9 15 23) ?_
    refine pu9 5 28 (bm9 15 55) ?_
    refine pu9 6 29 (bm9 15 119) ?_
    refine pu9 7 30 (bm9 15 247) ?_
    refine pu9 9 32 (bm9 15 759) ?_
    refine pu9 10 33 (bm9 15 1783) ?_
    refine tk29 3 26 (bm9 15 1791) hHeld ?_
    refine tk29 8 31 (bm9 15 2047) hHeld ?_
    refine pu9 11 34 (bm9 15 4095) ?_
    refine last_ (i := 12) (N := none) (bm9 15 8191) rfl rfl (by kernel_rfl) (by decide) (fun K hK => ?_)
    refine skip_ (w1 := ?_) (by rfl) rfl ?_ ?_
    rotate_left
    ·go_simp
     rfl
    refine hK.out _ _ ?_
    clear hK K
    refine pu9 13 35 (bm9 15 16383) ?_
    refine last_ (i := 14) (N := none) (bm9 15 32767) rfl rfl (by kernel_rfl) (by decide) (fun K hK => ?_)
    refine skip_ (w1 := ?_) (by rfl) rfl ?_ ?_
    rotate_left
    ·go_simp
     rfl
    refine hK.out _ _ ?_
    clear hK K
    refine done_ (by kernel_rfl) ?_
    go_wp2
    go_roundw
    case rel =>
     refine ⟨i + 1, by go_num, by omega, ⟨?_⟩, ⟨((F.out.setCell (p := ⟨w.heap.size, i, none⟩) (by simp) _).setCell (p := ⟨w.heap.size + 1, i, none⟩) (by simp) _).drew⟩⟩
     have h2 := (M1.out.setSiz i 1).drew
     rw [upTo_set hlt, onesTo_set hlt] at h2
     exact h2
    case measure => simp [intOf]; omega
   ·obtain rfl : i = n := by omega
    go_wp2
    go_ret2
    have h2 := M.out
    rw [upTo_self, onesTo_self] at h2
    refine ⟨_, _, _, rfl, by omega, ?_, ?_, ⟨List.range i, List.replicate i 1, ⟨?_, h2.par, h2.siz, h2.ne1, h2.ne2, h2.ne3, ?_, Rep.range i, Sized.ones i⟩⟩, F.out⟩
    ·exact Nat.le_refl _
    ·omega
    ·rw [List.length_range, sets_range]; exact h2.obj
    ·rw [List.length_range]; exact h
 ·obtain ⟨M0, F0⟩ := new_start w n (w.heap.size + 1) (w.heap.size) (.inr ⟨rfl, rfl⟩)
  generalize (((w.alloc (.cells (madeCells #[.int .i64 0] n) 3 (0, 0))).alloc (.cells (madeCells #[.int .i64 0] n) 3 (0, 0))).alloc (.cells #[.slice (some ⟨w.heap.size + 1, 0, none⟩) n n, .slice (some ⟨w.heap.size, 0, none⟩) n n, .int .i64 (n : Int)] 117 (0, 0))).drew = w1 at M0 F0 ⊢
  have M := Aside0.mk M0
  have F := Aside0.mk F0
  clear M0 F0 mk1 mk2
  go_wp2
  go_loopw [20] (fun v wr => ∃ i : Nat, v = .int .i64 (i : Int) ∧ i ≤ n ∧ Aside0 (MidPS wr (w.heap.size + 1 + 1) (w.heap.size + 1) (w.heap.size) n (upTo i n) (onesTo i n) n) ∧ Aside0 (Below w.heap.size w wr)) (fun v _ => n - (intOf v).toNat)
  case atStart => exact ⟨0, rfl, by omega, M, F⟩
  case round =>
   clear M F
   obtain ⟨i, rfl, hi, M, F⟩ := hrel
   by_cases hlt : i < n
   ·have hlen := upTo_length hi
    have hlen2 := onesTo_length hi
    have M1 := Aside0.mk (M.out.setPar i i)
    have c1 := nv_cell M.out.par (i := i) (by omega)
    have f1 := blk_free M.out.par i
    have c2 := nv_cell M1.out.siz (i := i) (by omega)
    have f2 := blk_free M1.out.siz i
    have HL := Aside0.mk hlen
    have HL2 := Aside0.mk hlen2
    clear hlen hlen2
    go_wp2
    refine start_ (n := 15) (S := fun w' => w'.cell? ⟨w.heap.size + 1 + 1, 0, none⟩ = some (.slice (some ⟨w.heap.size + 1, 0, none⟩) n n) ∧ w'.cell? ⟨w.heap.size + 1 + 1, 1, none⟩ = some (.slice (some ⟨w.heap.size, 0, none⟩) n n)) (ds := [12, 14]) (bm9 15 0) (by kernel_rfl) rfl rfl ⟨M.out.drew.cell0, M.out.drew.cell1⟩ (fun hHeld => ?_)
    refine pu9 0 23 (bm9 15 1) ?_
    refine pu9 1 24 (bm9 15 3) ?_
    refine pu9 2 25 (bm9 15 7) ?_
    refine pu9 4 27 (bm9 15 23) ?_
    refine pu9 5 28 (bm9 15 55) ?_
    refine pu9 6 29 (bm9 15 119) ?_
    refine pu9 7 30 (bm9 15 247) ?_
    refine pu9 9 32 (bm9 15 759) ?_
    refine pu9 10 33 (bm9 15 1783) ?_
    refine tk29 3 26 (bm9 15 1791) hHeld ?_
    refine tk29 8 31 (bm9 15 2047) hHeld ?_
    refine pu9 11 34 (bm9 15 4095) ?_
    refine last_ (i := 12) (N := none) (bm9 15 8191) rfl rfl (by kernel_rfl) (by decide) (fun K hK => ?_)
    refine skip_ (w1 := ?_) (by rfl) rfl ?_ ?_
    rotate_left
    ·go_simp
     rfl
    refine hK.out _ _ ?_
    clear hK K
    refine pu9 13 35 (bm9 15 16383) ?_
    refine last_ (i := 14) (N := none) (bm9 15 32767) rfl rfl (by kernel_rfl) (by decide) (fun K hK => ?_)
    refine skip_ (w1 := ?_) (by rfl) rfl ?_ ?_
    rotate_left
    ·go_simp
     rfl
    refine hK.out _ _ ?_
    clear hK K
    refine done_ (by kernel_rfl) ?_
    go_wp2
    go_roundw
    case rel =>
     refine ⟨i + 1, by go_num, by omega, ⟨?_⟩, ⟨((F.out.setCell (p := ⟨w.heap.size + 1, i, none⟩) (by simp) _).setCell (p := ⟨w.heap.size, i, none⟩) (by simp) _).drew⟩⟩
     have h2 := (M1.out.setSiz i 1).drew
     rw [upTo_set hlt, onesTo_set hlt] at h2
     exact h2
    case measure => simp [intOf]; omega
   ·obtain rfl : i = n := by omega
    go_wp2
    go_ret2
    have h2 := M.out
    rw [upTo_self, onesTo_self] at h2
    refine ⟨_, _, _, rfl, by omega, ?_, ?_, ⟨List.range i, List.replicate i 1, ⟨?_, h2.par, h2.siz, h2.ne1, h2.ne2, h2.ne3, ?_, Rep.range i, Sized.ones i⟩⟩, F.out⟩
    ·omega
    ·exact Nat.le_refl _
    ·rw [List.length_range, sets_range]; exact h2.obj
    ·rw [List.length_range]; exact h
end Sets
namespace Sets
def numTo (m : List Nat) : Nat → List Nat × Nat
 | 0 => ([], 0)
 | k + 1 => if gt m k < k then ((numTo m k).1 ++ [gt (numTo m k).1 (gt m k)], (numTo m k).2) else ((numTo m k).1 ++ [(numTo m k).2], (numTo m k).2 + 1)
theorem numTo_length (m : List Nat) (k : Nat) : (numTo m k).1.length = k := by
 induction k with
 | zero => rfl
 | succ k ih => unfold numTo; split <;> simp [ih]
theorem numTo_le (m : List Nat) (k : Nat) : (numTo m k).2 ≤ k := by
 induction k with
 | zero => simp [numTo]
 | succ k ih => unfold numTo; split <;> simp <;> omega
def numRow (m : List Nat) (n k : Nat) : List Nat := (numTo m k).1 ++ List.replicate (n - k) 0
theorem numRow_length (m : List Nat) {n k : Nat} (h : k ≤ n) : (numRow m n k).length = n := by simp [numRow, numTo_length]; omega
theorem numRow_zero (m : List Nat) (n : Nat) : numRow m n 0 = List.replicate n 0 := by simp [numRow, numTo]
theorem numRow_self (m : List Nat) (n : Nat) : numRow m n n = (numTo m n).1 := by simp [numRow]
theorem numRow_get (m : List Nat) {n k i : Nat} (hi : i < k) (h : k ≤ n) : gt (numRow m n k) i = gt (numTo m k).1 i := by
 unfold numRow gt
 simp only [List.getD_eq_getElem?_getD]
 rw [List.getElem?_append_left (by rw [numTo_length]; exact hi)]
theorem numRow_old (m : List Nat) {n k : Nat} (h : k < n) (hlt : gt m k < k) : (numRow m n k).set k (gt (numRow m n k) (gt m k)) = numRow m n (k + 1) := by
 rw [numRow_get m hlt (by omega)]
 unfold numRow
 rw [set_end _ _ _ _ _ (numTo_length m k) h]
 conv => rhs; unfold numTo
 rw [if_pos hlt]
theorem numRow_new (m : List Nat) {n k : Nat} (h : k < n) (hge : ¬ gt m k < k) : (numRow m n k).set k (numTo m k).2 = numRow m n (k + 1) := by
 unfold numRow
 rw [set_end _ _ _ _ _ (numTo_length m k) h]
 conv => rhs; unfold numTo
 rw [if_neg hge]
theorem numTo_old {m : List Nat} {k : Nat} (hlt : gt m k < k) : (numTo m (k + 1)).2 = (numTo m k).2 := by conv => lhs; unfold numTo; rw [if_pos hlt]
theorem numTo_new {m : List Nat} {k : Nat} (hge : ¬ gt m k < k) : (numTo m (k + 1)).2 = (numTo m k).2 + 1 := by conv => lhs; unfold numTo; rw [if_neg hge]
def RowAt (w : World) (b : Nat) (l : List Nat) : Prop := w.heap[b]? = some (.cells (nv l) 3 (0, 0))
theorem Frame.newCell {S : Nat → Prop} {a b : World} (h : Frame S a b) {i : Nat} (u : Value) : Frame S a (b.setCell ⟨a.heap.size, i, none⟩ u) :=
 ⟨h.os, h.tape, h.output, by simpa [World.setCell] using h.size, fun k hk hs => (Below.heap_setCell _ _ _ _ (by simp; omega)).trans (h.block k hk hs)⟩
theorem numbers_calls (p bP bS : Nat) (m P S : List Nat) (w : World) (h : AtPS w p bP bS m P S) :
  Calls Try.prog 67 #[.pointer (some ⟨p, 0, none⟩)] w fun e w' => ∃ bo, e = .returned (.tuple #[.slice (some ⟨bo, 0, none⟩) m.length m.length, .int .i64 (((numTo m m.length).2 : Nat) : Int)]) ∧ w.heap.size ≤ bo ∧ RowAt w' bo (numTo m m.length).1 ∧ Now p bP bS m w w' := by
 have H := Aside0.mk h
 have h0 := h.cell0
 have hs := h.small
 have mk1 := print_make (P := Try.prog) 27 3 .i64 8 Try.underlying27 info_int (by decide) m.length (by omega)
 rw [made_nv, ← numRow_zero m] at mk1
 have hp := blk_lt h.obj
 have hP := blk_lt h.par
 have hS := blk_lt h.siz
 clear h
 go_enter Try.func67, Try.ntmps67
 go_wp2
 clear mk1 h0
 have H1 : Aside0 (At (w.alloc (.cells (nv (numRow m m.length 0)) 3 (0, 0))) p bP bS m) := ⟨P, S, heap_old H.out.obj _, heap_old H.out.par _, heap_old H.out.siz _, H.out.ne1, H.out.ne2, H.out.ne3, H.out.small, H.out.rep, H.out.sized⟩
 have HO : Aside0 (RowAt (w.alloc (.cells (nv (numRow m m.length 0)) 3 (0, 0))) w.heap.size (numRow m m.length 0)) := ⟨heap_last _ _⟩
 have HF : Aside0 (Frame (Own p bP bS) w (w.alloc (.cells (nv (numRow m m.length 0)) 3 (0, 0)))) := ⟨(Frame.refl _ _).alloc _⟩
 generalize w.alloc (.cells (nv (numRow m m.length 0)) 3 (0, 0)) = w1 at H1 HO HF ⊢
 clear H
 go_loopw [5, 16] (fun c v wr => ∃ i : Nat, v = .int .i64 (i : Int) ∧ i ≤ m.length ∧ c = .int .i64 (((numTo m i).2 : Nat) : Int) ∧ Aside0 (At wr p bP bS m) ∧ Aside0 (RowAt wr w.heap.size (numRow m m.length i)) ∧ Aside0 (Frame (Own p bP bS) w wr)) (fun _ v _ => m.length - (intOf v).toNat)
 case atStart => exact ⟨0, rfl, by omega, rfl, H1, HO, HF⟩
 case round =>
  clear H1 HO HF
  obtain ⟨i, rfl, hi, rfl, HA, HO, HF⟩ := hrel
  obtain ⟨P1, S1, H1⟩ := HA.out
  have h0 := H1.cell0
  have H := Aside0.mk H1
  have hcl := numTo_le m i
  clear H1
  by_cases hlt : i < m.length
  ·have hml := H.out.rep.ml hlt
   by_cases hold : gt m i < i
   ·have HN := Aside0.mk (numRow_length m (n := m.length) (k := i) hi)
    go_wp2_with (go_at_call 69; refine (root_calls bP m.length m.length i _ P1 m _ H.out.par H.out.rep hlt rfl H.out.small).mono ?_; rintro e w' ⟨rfl, hc⟩; have HC := Aside0.mk (H.out.climbed hc); have HO2 := Aside0.mk (hc.choose_spec.2.2.blk HO.out (by omega)); clear hc; have c1 := nv_cell HO2.out (i := gt m i) (by rw [HN.out]; omega); have c2 := nv_cell HO2.out (i := i) (by rw [HN.out]; omega); have f1 := blk_free HO2.out i)
    obtain ⟨Q, h1, h2⟩ := HC.out
    have hb : ¬ Own p bP bS w.heap.size := by unfold Own; omega
    go_roundw
    case rel =>
     refine ⟨i + 1, by go_num, by omega, by rw [numTo_old hold], ⟨Q, S1, heap_setCell_ne h1.obj (by omega), heap_setCell_ne h1.par (by omega), heap_setCell_ne h1.siz (by omega), h1.ne1, h1.ne2, h1.ne3, h1.small, h1.rep, h1.sized⟩, ⟨?_⟩, ⟨?_⟩⟩
     ·have h3 : RowAt _ _ _ := blk_set_nv (i := i) (x := gt (numRow m m.length i) (gt m i)) HO2.out
      rw [numRow_old m hlt hold] at h3
      exact h3
     ·have h3 := HF.out.trans h2
      exact h3.newCell _
    case measure => simp [intOf]; omega
   ·have hge : gt m i = i := by omega
    have HN := Aside0.mk (numRow_length m (n := m.length) (k := i) hi)
    go_wp2_with (go_at_call 69; refine (root_calls bP m.length m.length i _ P1 m _ H.out.par H.out.rep hlt rfl H.out.small).mono ?_; rintro e w' ⟨rfl, hc⟩; have HC := Aside0.mk (H.out.climbed hc); have HO2 := Aside0.mk (hc.choose_spec.2.2.blk HO.out (by omega)); clear hc; have c1 := nv_cell HO2.out (i := gt m i) (by rw [HN.out]; omega); have c2 := nv_cell HO2.out (i := i) (by rw [HN.out]; omega); have f1 := blk_free HO2.out i)
    obtain ⟨Q, h1, h2⟩ := HC.out
    have hb : ¬ Own p bP bS w.heap.size := by unfold Own; omega
    go_roundw
    case rel =>
     refine ⟨i + 1, by go_num, by omega, by rw [numTo_new hold]; go_num, ⟨Q, S1, heap_setCell_ne h1.obj (by omega), heap_setCell_ne h1.par (by omega), heap_setCell_ne h1.siz (by omega), h1.ne1, h1.ne2, h1.ne3, h1.small, h1.rep, h1.sized⟩, ⟨?_⟩, ⟨?_⟩⟩
     ·have h3 : RowAt _ _ _ := blk_set_nv (i := i) (x := (numTo m i).2) HO2.out
      rw [numRow_new m hlt hold] at h3
      exact h3
     ·have h3 := HF.out.trans h2
      exact h3.newCell _
    case measure => simp [intOf]; omega
  ·obtain rfl : i = m.length := by omega
   go_wp2
   go_ret2
   have h3 := HO.out
   rw [numRow_self] at h3
   exact ⟨_, rfl, Nat.le_refl _, h3, HA.out, HF.out⟩
end Sets
namespace Sets
def pe (es : List (Int × Int)) (i : Nat) : Int × Int := es.getD i (0, 0)
def Pairs (w : World) (A : Option Addr) (es : List (Int × Int)) : Prop := ∀ i : Nat, i < es.length → ∃ ad, A = some ad ∧ w.cell? (ad.add (i * 2)) = some (.int .i64 (pe es i).1) ∧ w.cell? ⟨(ad.add (i * 2)).block, (ad.add (i * 2)).off + 1, none⟩ = some (.int .i64 (pe es i).2)
theorem cell_block {w : World} {a : Addr} {v : Value} (h : w.cell? a = some v) : a.block < w.heap.size := by
 unfold World.cell? at h
 by_cases hk : a.block < w.heap.size
 ·exact hk
 ·rw [Array.getElem?_eq_none (by omega)] at h; simp at h
theorem Pairs.below {w w' : World} {A : Option Addr} {es : List (Int × Int)} (h : Pairs w A es) (hb : Below w.heap.size w w') : Pairs w' A es := by
 intro i hi
 obtain ⟨ad, e, h1, h2⟩ := h i hi
 exact ⟨ad, e, by rw [hb.cell (cell_block h1)]; exact h1, by rw [hb.cell (cell_block h2)]; exact h2⟩
def joinAll (m : List Nat) (es : List (Int × Int)) : List Nat := es.foldl (fun m e => (joinOf m e.1 e.2).1) m
theorem joinOf_length (m : List Nat) (a b : Int) : (joinOf m a b).1.length = m.length := by
 unfold joinOf; split
 ·exact glue_length _ _ _
 ·rfl
theorem joinAll_length (es : List (Int × Int)) : ∀ m : List Nat, (joinAll m es).length = m.length := by
 induction es with
 | nil => intro m; rfl
 | cons e es ih => intro m; unfold joinAll at ih ⊢; rw [List.foldl_cons, ih, joinOf_length]
theorem joinAll_take (m : List Nat) (es : List (Int × Int)) {k : Nat} (h : k < es.length) : joinAll m (es.take (k + 1)) = (joinOf (joinAll m (es.take k)) (pe es k).1 (pe es k).2).1 := by
 unfold joinAll
 rw [List.take_succ_eq_append_getElem h, List.foldl_append]
 simp [pe, List.getD_eq_getElem?_getD, h]
theorem Now.at_ {p bP bS : Nat} {m : List Nat} {w w' : World} (h : Now p bP bS m w w') : At w' p bP bS m := h.1
def SaysYes (n : Int) (A : Option Addr) (l c : Nat) (w : World) : Prop := ∀ w', Below w.heap.size w w' →
 Calls Try.prog 60 #[.agg #[.int .i64 n, .slice A l c]] w' fun e w'' => e = .returned (.bool true) ∧ Below w'.heap.size w' w''
def SaysNo (n : Int) (A : Option Addr) (l c : Nat) (w : World) : Prop := ∀ w', Below w.heap.size w w' →
 Calls Try.prog 60 #[.agg #[.int .i64 n, .slice A l c]] w' fun e w'' => e = .returned (.bool false) ∧ Below w'.heap.size w' w''
theorem of_no (n : Int) (A : Option Addr) (l c : Nat) (w : World) (hv : SaysNo n A l c w) :
  Calls Try.prog 63 #[.agg #[.int .i64 n, .slice A l c]] w fun e w' => e = .returned (.tuple #[.slice none 0 0, .int .i64 0, .int .i64 1]) ∧ Below w.heap.size w w' := by
 have B0 := (Below.refl w.heap.size w).alloc (Nat.le_refl _) (.cells #[.int .i64 n, .slice A l c] 24 (0, 0))
 have HV := Aside0.mk (hv _ B0)
 have HB := Aside0.mk B0
 clear hv B0
 go_enter Try.func63, Try.ntmps63
 go_wp2_with (go_at_call 60; refine (HV.out).mono ?_; rintro e w' ⟨rfl, hb⟩; have HB2 := Aside0.mk (HB.out.trans (hb.mono (by simp))); clear hb)
 go_ret3
 exact ⟨rfl, HB2.out⟩
theorem of_yes (n : Nat) (A : Option Addr) (c : Nat) (es : List (Int × Int)) (w : World) (hv : SaysYes n A es.length c w) (hn : n ≤ 1048576) (he : Pairs w A es) (hl : es.length ≤ 9223372036854775807) :
  Calls Try.prog 63 #[.agg #[.int .i64 (n : Int), .slice A es.length c]] w fun e w' => ∃ bo, e = .returned (.tuple #[.slice (some ⟨bo, 0, none⟩) n n, .int .i64 (((numTo (joinAll (List.range n) es) n).2 : Nat) : Int), .int .i64 0]) ∧ w.heap.size ≤ bo ∧ RowAt w' bo (numTo (joinAll (List.range n) es) n).1 ∧ Below w.heap.size w w' := by
 have B0 := (Below.refl w.heap.size w).alloc (Nat.le_refl _) (.cells #[.int .i64 (n : Int), .slice A es.length c] 24 (0, 0))
 have HV := Aside0.mk (hv _ B0)
 have HB := Aside0.mk B0
 have HX := Aside0.mk (heap_last w (.cells #[.int .i64 (n : Int), .slice A es.length c] 24 (0, 0)))
 have HE := Aside0.mk he
 clear hv B0 he
 go_enter Try.func63, Try.ntmps63
 go_wp2_with fail
 refine (HV.out).mono ?_
 rintro e w2 ⟨rfl, hb⟩
 have HB2 := Aside0.mk (HB.out.trans (hb.mono (by simp)))
 have HX2 := Aside0.mk ((hb.block w.heap.size (by simp)).trans HX.out)
 clear hb HB HX HV
 have x0 : w2.cell? ⟨w.heap.size, 0, none⟩ = some (.int .i64 (n : Int)) := (blk_cell HX2.out 0).trans rfl
 go_wp2_with fail
 refine (new_yes n _ hn).mono ?_
 rintro e w3 ⟨p, bP, bS, rfl, hp1, hp2, hp3, hat, hb⟩
 have hsz := HB2.out.size
 have HB3 := Aside0.mk (HB2.out.trans (hb.mono hsz))
 have HX3 := Aside0.mk ((hb.block w.heap.size (blk_lt HX2.out)).trans HX2.out)
 have HPb : Aside0 (w.heap.size ≤ p ∧ w.heap.size ≤ bP ∧ w.heap.size ≤ bS) := ⟨by omega⟩
 have HA := Aside0.mk hat
 clear hb hat hp1 hp2 hp3 x0 hsz HX2 HB2
 have x1 : w3.cell? ⟨w.heap.size, 1, none⟩ = some (.slice A es.length c) := (blk_cell HX3.out 1).trans rfl
 go_wp2
 clear x1 HX3
 go_loopw [23] (fun v wr => ∃ i : Nat, v = .int .i64 (i : Int) ∧ i ≤ es.length ∧ Aside0 (At wr p bP bS (joinAll (List.range n) (es.take i))) ∧ Aside0 (Below w.heap.size w wr)) (fun v _ => es.length - (intOf v).toNat)
 case atStart => exact ⟨0, rfl, by omega, HA, HB3⟩
 case round =>
  clear HA HB3
  obtain ⟨i, rfl, hi, HA, HB⟩ := hrel
  by_cases hlt : i < es.length
  ·obtain ⟨ad, eA, hc1, hc2⟩ := (HE.out.below HB.out) i hlt
   subst eA
   go_wp2_with fail
   obtain ⟨P1, S1, H1⟩ := HA.out
   have hpb := HPb.out
   have hsz := HB.out.size
   have H2 : AtPS (wr.alloc (.cells #[.int .i64 (pe es i).1, .int .i64 (pe es i).2] 41 (0, 0))) p bP bS (joinAll (List.range n) (es.take i)) P1 S1 := ⟨heap_old H1.obj _, heap_old H1.par _, heap_old H1.siz _, H1.ne1, H1.ne2, H1.ne3, H1.small, H1.rep, H1.sized⟩
   have hF : Frame (Own p bP bS) wr (wr.alloc (.cells #[.int .i64 (pe es i).1, .int .i64 (pe es i).2] 41 (0, 0))) := (Frame.refl _ _).alloc _
   have H3 := Aside0.mk H2
   have HF := Aside0.mk hF
   clear H1 H2 hF
   refine (join_calls p bP bS _ P1 S1 _ _ _ H3.out).mono ?_
   rintro e w5 ⟨rfl, hA, hF⟩
   have HA2 := Aside0.mk hA
   have HB2 := Aside0.mk (HB.out.trans ((HF.out.trans hF).below hsz (fun k hk => by unfold Own at hk; omega)))
   have hlen := joinAll_take (List.range n) es hlt
   rw [← hlen] at HA2
   clear hA hF hlen
   go_wp2
   go_roundw
   case rel => exact ⟨i + 1, by go_num, by omega, HA2, HB2⟩
   case measure => simp [intOf]; omega
  ·obtain rfl : i = es.length := by omega
   obtain ⟨P1, S1, H1⟩ := HA.out
   have H := Aside0.mk H1
   have hpb := HPb.out
   have hsz := HB.out.size
   clear H1
   go_wp2_with fail
   refine (numbers_calls p bP bS _ P1 S1 _ H.out).mono ?_
   rintro e w5 ⟨bo, rfl, hbo, hrow, hA, hF⟩
   rw [List.take_length, joinAll_length, List.length_range] at hrow ⊢
   have HR := Aside0.mk hrow
   have HB2 := Aside0.mk (HB.out.trans (hF.below hsz (fun k hk => by unfold Own at hk; omega)))
   clear hrow hA hF
   go_wp2
   go_ret3
   exact ⟨bo, rfl, by omega, HR.out, HB2.out⟩
end Sets
namespace Sets
theorem C_le {α : Type} {d : Kd α} {w : World} {A : Option Addr} {n : Nat} {xs : List α} (h : d.C w A n xs) : n ≤ 9223372036854775807 := by
 obtain ⟨_, h2, _⟩ := h
 exact h2
theorem row_own {w : World} {b base : Nat} {l : List Nat} {ok : Nat → Prop} (h : RowAt w b l) (hb : base ≤ b) (hl : l.length ≤ 9223372036854775807) (hok : ok b) : Kd.R (Kd.int .i64) 3 w base ok (.slice (some ⟨b, 0, none⟩) l.length l.length) (l.map fun (x : Nat) => (x : Int)) := by
 refine Kd.R_of_own (enc := Value.int .i64) ⟨by simp [encs], .inr ⟨b, l.length, nv l, by simp, hb, h, by simp, by unfold maxLen; exact hl, by simp [nv], ?_⟩⟩ (fun k hk => ?_)
 ·rw [List.length_map, Nat.mul_one]; simp [nv, encs, List.take_of_length_le, Function.comp_def]
 ·have : b = k := by simpa [Value.ownBlock] using hk
  exact this ▸ hok
theorem Now.ex {p bP bS : Nat} {m : List Nat} {w w' : World} (h : Now p bP bS m w w') : ∃ P S, AtPS w' p bP bS m P S := h.1
theorem Now.row {p bP bS : Nat} {m : List Nat} {w w' : World} (h : Now p bP bS m w w') {b : Nat} {l : List Nat} (hr : RowAt w b l) (hb : ¬ Own p bP bS b) : RowAt w' b l := h.2.blk hr hb
theorem Now.below {p bP bS B : Nat} {m : List Nat} {w0 w w' : World} (h : Now p bP bS m w w') (h0 : Below B w0 w) (hB : B ≤ w.heap.size) (h1 : B ≤ p ∧ B ≤ bP ∧ B ≤ bS) : Below B w0 w' :=
 h0.trans (h.2.below hB (fun k hk => by unfold Own at hk; omega))
theorem AtPS.below {w w' : World} {p bP bS B : Nat} {m P S : List Nat} (h : AtPS w p bP bS m P S) (hb : Below B w w') (h1 : p < B ∧ bP < B ∧ bS < B) : AtPS w' p bP bS m P S :=
 ⟨(hb.block p h1.1).trans h.obj, (hb.block bP h1.2.1).trans h.par, (hb.block bS h1.2.2).trans h.siz, h.ne1, h.ne2, h.ne3, h.small, h.rep, h.sized⟩
theorem AtPS.all {w w' : World} {p bP bS : Nat} {m P S : List Nat} (h : AtPS w p bP bS m P S) (hb : Below w.heap.size w w') : AtPS w' p bP bS m P S := h.below hb ⟨blk_lt h.obj, blk_lt h.par, blk_lt h.siz⟩
theorem AtPS.alloc {w : World} {p bP bS : Nat} {m P S : List Nat} (h : AtPS w p bP bS m P S) (o : Obj) : AtPS (w.alloc o) p bP bS m P S := h.all ((Below.refl _ _).alloc (Nat.le_refl _) _)
def FixValid : Prop := ∀ (b : Nat) (W : World), W.cell? ⟨b, 0, none⟩ = some (.int .i64 0) → W.cell? ⟨b, 1, none⟩ = some (.int .i64 2) →
 Calls Try.prog 60 #[.agg #[.int .i64 3, .slice (some ⟨b, 0, none⟩) 1 1]] W fun e w' => e = .returned (.bool true) ∧ Below W.heap.size W w'
def FixSame : Prop := ∀ (b c : Nat) (W : World), RowAt W b [0, 1, 0] → RowAt W c [0, 1, 0] →
 Calls Try.prog 21 #[.slice (some ⟨b, 0, none⟩) 3 3, .slice (some ⟨c, 0, none⟩) 3 3] W fun e w' => e = .returned (.bool true) ∧ Drawn0 W w'
end Sets
end Go.Proofs.Ytaepieadbfndnaa
