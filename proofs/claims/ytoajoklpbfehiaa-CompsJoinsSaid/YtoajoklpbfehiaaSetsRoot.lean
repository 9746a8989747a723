/- DERIVED. The walks of the small functions of package comps, one by one. -/
import Derived.Test.YtoajoklpbfehiaaHead
import Derived.Test.YtoajoklpbfehiaaSetsPure
namespace Go.Proofs.Ytoajoklpbfehiaa.Sets
open Go.RowKit Go.Proofs.YtoajoklpbfehiaaW.PrintWords Go.Proofs.YtoajoklpbfehiaaW.PrintLast Go.Proofs.YtoajoklpbfehiaaW.PrintMore
set_option linter.unusedVariables false
set_option linter.unusedSimpArgs false

/-- all blocks but those of S stay; new ones may come -/
structure Frame (S : Nat → Prop) (w w' : World) : Prop where
  os : w'.os = w.os
  tape : w'.tape = w.tape
  output : w'.output = w.output
  size : w.heap.size ≤ w'.heap.size
  block : ∀ k, k < w.heap.size → ¬ S k → w'.heap[k]? = w.heap[k]?

theorem Frame.refl (S : Nat → Prop) (w : World) : Frame S w w := ⟨rfl, rfl, rfl, Nat.le_refl _, fun _ _ _ => rfl⟩
theorem Frame.trans {S : Nat → Prop} {a b c : World} (h : Frame S a b) (k : Frame S b c) : Frame S a c :=
  ⟨k.os.trans h.os, k.tape.trans h.tape, k.output.trans h.output, Nat.le_trans h.size k.size, fun i hi hs => (k.block i (Nat.lt_of_lt_of_le hi h.size) hs).trans (h.block i hi hs)⟩
theorem Frame.mono {S T : Nat → Prop} {a b : World} (h : Frame S a b) (hst : ∀ k, S k → T k) : Frame T a b := ⟨h.os, h.tape, h.output, h.size, fun i hi hs => h.block i hi (fun e => hs (hst i e))⟩
theorem Frame.drew {S : Nat → Prop} {a b : World} (h : Frame S a b) : Frame S a b.drew := ⟨h.os, h.tape, h.output, h.size, h.block⟩
theorem Frame.drewN {S : Nat → Prop} {a b : World} (h : Frame S a b) (n : Nat) : Frame S a (b.drewN n) := ⟨h.os, h.tape, h.output, h.size, h.block⟩
theorem Frame.setCell {S : Nat → Prop} {a b : World} (h : Frame S a b) {p : Addr} (hp : S p.block) (u : Value) : Frame S a (b.setCell p u) :=
  h.trans ⟨rfl, rfl, rfl, by simp [World.setCell], fun k _ hs => Below.heap_setCell _ _ _ _ (fun e => hs (e ▸ hp))⟩
theorem Frame.alloc {S : Nat → Prop} {a b : World} (h : Frame S a b) (o : Obj) : Frame S a (b.alloc o) :=
  h.trans ⟨rfl, rfl, rfl, by simp, fun k hk _ => Below.heap_alloc _ _ _ hk⟩
theorem Frame.below {S : Nat → Prop} {a b : World} (h : Frame S a b) {B : Nat} (hB : B ≤ a.heap.size) (hS : ∀ k, S k → B ≤ k) : Below B a b :=
  ⟨h.os, h.tape, h.output, h.size, fun k hk => h.block k (by omega) (fun e => by have := hS k e; omega)⟩
theorem Frame.blk {S : Nat → Prop} {a b : World} (h : Frame S a b) {k : Nat} {o : Obj} (hk : a.heap[k]? = some o) (hs : ¬ S k) : b.heap[k]? = some o := by
  rw [h.block k (by rw [Array.getElem?_eq_some_iff] at hk; exact hk.1) hs]; exact hk

/-- a list of numbers as cells -/
def nv (l : List Nat) : Array Value := (l.map fun (x : Nat) => Value.int .i64 (x : Int)).toArray
theorem nv_get (l : List Nat) (i : Nat) (h : i < l.length) : (nv l)[i]? = some (.int .i64 (((gt l i) : Nat) : Int)) := by
  simp [nv, gt, List.getD_eq_getElem?_getD, h]
theorem nv_set (l : List Nat) (i x : Nat) : (nv l).setIfInBounds i (.int .i64 (x : Int)) = nv (l.set i x) := by
  simp [nv, List.map_set]
theorem blk_lt {w : World} {k : Nat} {o : Obj} (hk : w.heap[k]? = some o) : k < w.heap.size := by
  rw [Array.getElem?_eq_some_iff] at hk; exact hk.1
theorem blk_setCell {w : World} {b i : Nat} {c : Array Value} {T : TypeId} {f : Nat × Nat} (h : w.heap[b]? = some (.cells c T f)) (v : Value) : (w.setCell ⟨b, i, none⟩ v).heap[b]? = some (.cells (c.setIfInBounds i v) T f) := by
  simp [World.setCell, Array.getElem?_modify, h]
theorem nv_cell {w : World} {b : Nat} {l : List Nat} {T : TypeId} {f : Nat × Nat} (h : w.heap[b]? = some (.cells (nv l) T f)) {i : Nat} (hi : i < l.length) : w.cell? ⟨b, i, none⟩ = some (.int .i64 (((gt l i) : Nat) : Int)) := by
  simp [World.cell?, h, nv_get l i hi]
theorem blk_free {w : World} {b : Nat} {c : Array Value} {T : TypeId} (h : w.heap[b]? = some (.cells c T (0, 0))) (i : Nat) : w.frozen? ⟨b, i, none⟩ = false := by
  simp [World.frozen?, h]
theorem blk_set_nv {w : World} {b i x : Nat} {l : List Nat} {T : TypeId} {f : Nat × Nat} (h : w.heap[b]? = some (.cells (nv l) T f)) : (w.setCell ⟨b, i, none⟩ (.int .i64 (x : Int))).heap[b]? = some (.cells (nv (l.set i x)) T f) := by
  rw [blk_setCell h, nv_set]

theorem beq_cast (x y : Nat) : (((x : Nat) : Int) == ((y : Nat) : Int)) = (x == y) := by
  rw [Bool.eq_iff_iff]; simp only [beq_iff_eq]; omega

set_option maxHeartbeats 400000 in
theorem known_calls (A : Option Addr) (n c : Nat) (a : Int) (w : World) :
    Calls Try.prog 43 #[.slice A n c, .int .i64 a] w fun e w' => e = .returned (.bool (decide (0 ≤ a) && decide (a < (n : Int)))) ∧ w = w' := by
  by_cases h : 0 ≤ a
  · have h1 : decide (0 ≤ a) = true := decide_eq_true h
    go_enter Try.func43, Try.ntmps43
    go_wp2
    go_ret
    exact ⟨by simp [h], rfl⟩
  · have h1 : decide (0 ≤ a) = false := decide_eq_false h
    go_enter Try.func43, Try.ntmps43
    go_wp2
    go_ret
    exact ⟨by simp, rfl⟩

/-- what became of the world: block b holds another list that climbs to the same least numbers -/
def Climbed (b : Nat) (T : TypeId) (m : List Nat) (w w' : World) : Prop := ∃ P, Rep P m ∧ w'.heap[b]? = some (.cells (nv P) T (0, 0)) ∧ Frame (· = b) w w'

set_option maxHeartbeats 400000 in
theorem root_calls (b n c a : Nat) (T : TypeId) (P m : List Nat) (w : World) (hb : w.heap[b]? = some (.cells (nv P) T (0, 0))) (hr : Rep P m) (ha : a < m.length) (hn : n = m.length) (hm : m.length ≤ 1048576) :
    Calls Try.prog 33 #[.slice (some ⟨b, 0, none⟩) n c, .int .i64 (a : Int)] w fun e w' => e = .returned (.int .i64 (((gt m a) : Nat) : Int)) ∧ Climbed b T m w w' := by
  subst hn
  have HB := Aside0.mk hb
  have HR := Aside0.mk hr
  clear hb hr
  go_enter Try.func33, Try.ntmps33
  go_wp2
  go_loopw [1] (fun v wr => ∃ (i : Nat) (Q : List Nat), v = .int .i64 (i : Int) ∧ i < m.length ∧ Aside0 ((gt m i) = (gt m a)) ∧ Aside0 (Rep Q m) ∧ Aside0 (wr.heap[b]? = some (.cells (nv Q) T (0, 0))) ∧ Aside0 (Frame (· = b) w wr)) (fun v _ => (intOf v).toNat)
  case atStart => exact ⟨a, P, rfl, ha, ⟨rfl⟩, HR, HB, ⟨Frame.refl _ _⟩⟩
  case round =>
    obtain ⟨i, Q, rfl, hi, HE, HQ, HBQ, HF⟩ := hrel
    have hlen : Q.length = m.length := HQ.out.len
    have hc0 := nv_cell HBQ.out (i := i) (by omega)
    by_cases hq : (gt Q i) = i
    · have ht : ((((gt Q i) : Nat) : Int) != (i : Int)) = false := by simp [hq]
      have HQ2 := Aside0.mk hq
      clear hq hlen
      go_wp2
      go_ret
      have e : i = gt m a := by rw [← HE.out]; exact ((HQ.out.fix i hi).1 HQ2.out).symm
      exact ⟨by rw [← e]; rfl, Q, HQ.out, HBQ.out, HF.out⟩
    · have ht : ((((gt Q i) : Nat) : Int) != (i : Int)) = true := by simp; omega
      have hle := HQ.out.le i hi
      have hc1 := nv_cell HBQ.out (i := (gt Q i)) (by omega)
      have hf0 := blk_free HBQ.out i
      have HQ2 := Aside0.mk hq
      have HL := Aside0.mk hlen
      clear hq hlen
      have hi2 : gt Q i < m.length := by omega
      go_wp2
      have hi3 := HQ.out.le (gt Q i) hi2
      go_roundw
      case rel => exact ⟨gt Q (gt Q i), Q.set i (gt Q (gt Q i)), rfl, by omega, ⟨by rw [HQ.out.same _ hi2, HQ.out.same _ hi]; exact HE.out⟩, ⟨HQ.out.halve hi HQ2.out⟩, ⟨blk_set_nv HBQ.out⟩, ⟨HF.out.setCell rfl _⟩⟩
      case measure => have := HQ2.out; simp [intOf]; omega
end Go.Proofs.Ytoajoklpbfehiaa.Sets
