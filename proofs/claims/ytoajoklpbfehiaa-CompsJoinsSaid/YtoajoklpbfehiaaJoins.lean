/- DERIVED. Between the document's list and a Sets: what stays where. -/
import Derived.Test.YtoajoklpbfehiaaTells
namespace Go.Proofs.Ytoajoklpbfehiaa.Sets
open Go.RowKit Go.Proofs.YtoajoklpbfehiaaW.PrintWords Go.Proofs.YtoajoklpbfehiaaW.PrintLast Go.Proofs.YtoajoklpbfehiaaW.PrintMore
set_option linter.unusedVariables false
set_option linter.unusedSimpArgs false
theorem Below.toFrame {w w' : World} (h : Below w.heap.size w w') : Frame (fun k => w.heap.size ≤ k) w w' := ⟨h.os, h.tape, h.output, h.size, fun i hi _ => h.block i hi⟩
theorem stay_of_R {own : Nat → Prop} {base : Nat} {ok : Nat → Prop} {w : World} {v : Value} {xs : List Int} (h : Kd.R (Kd.int .i64) 3 w base ok v xs) (hno : ∀ k, base ≤ k → ok k → ¬ own k) :
    ∃ A c, v = .slice A xs.length c ∧ xs.length ≤ c ∧ Stay own w A xs := by
  obtain ⟨A, c, rfl, hc, _⟩ := Kd.R_reads h
  refine ⟨A, c, rfl, hc, fun w' f => ?_⟩
  have ho := Kd.own_of_R h
  have ho2 : w'.ownsRow base 3 1 (.slice A xs.length c) xs.length (encs (Value.int .i64) xs) := own_move ho (fun k hk => by
    have := own_lt ho hk
    exact f.block k this.2 (hno k this.1 (h.1 k hk)))
  exact (Kd.R_reads' (Kd.R_of_own (ok := fun _ => True) ho2 (fun _ _ => trivial))).2.2
theorem R_framed {base : Nat} {ok S : Nat → Prop} {w w' : World} {v : Value} {xs : List Int} (h : Kd.R (Kd.int .i64) 3 w base ok v xs) (f : Frame S w w') (hno : ∀ k, base ≤ k → k < w.heap.size → ok k → ¬ S k) : Kd.R (Kd.int .i64) 3 w' base ok v xs := by
  have ho := Kd.own_of_R h
  exact Kd.R_of_own (own_move ho (fun k hk => by
    have := own_lt ho hk
    exact f.block k this.2 (hno k this.1 this.2 (h.1 k hk)))) h.1
/-- the law's state: the Sets, the document's list, nothing old is other -/
structure Mid (w0 W : World) (pv : Value) (own : Nat → Prop) (mS mR : List Nat) (vm : Value) : Prop where
  sx : Sx pv own mS W
  rm : Kd.R (Kd.int .i64) 3 W w0.heap.size (fun k => ¬ own k) vm (ints mR)
  old : Below w0.heap.size w0 W
  lo : ∀ k, own k → w0.heap.size ≤ k
section
variable {w0 W W' : World} {pv vm : Value} {own : Nat → Prop} {mS mR : List Nat}
theorem Mid.below (h : Mid w0 W pv own mS mR vm) (hb : Below W.heap.size W W') : Mid w0 W' pv own mS mR vm :=
  ⟨h.sx.framed (Below.toFrame hb) (fun k hk e => by have := h.sx.hi k hk; omega), R_framed h.rm (Below.toFrame hb) (fun k _ hk _ e => by omega), h.old.trans (hb.mono h.old.size), h.lo⟩
theorem Mid.drew (h : Mid w0 W pv own mS mR vm) : Mid w0 W.drew pv own mS mR vm := by
  have f : Frame (fun _ => False) W W.drew := (Frame.refl _ W).drew
  exact ⟨h.sx.framed f (fun _ _ e => e), R_framed h.rm f (fun _ _ _ _ e => e), h.old.trans (f.below h.old.size (fun _ e => e.elim)), h.lo⟩
theorem Mid.alloc (h : Mid w0 W pv own mS mR vm) (o : Obj) : Mid w0 (W.alloc o) pv own mS mR vm := h.below ((Below.refl _ _).alloc (Nat.le_refl _) o)
theorem Mid.now (h : Mid w0 W pv own mS mR vm) (k : SNow pv own mS W W') : Mid w0 W' pv own mS mR vm :=
  ⟨k.1, R_framed h.rm k.2 (fun _ _ _ e1 e2 => e1 e2), h.old.trans (k.2.below h.old.size h.lo), h.lo⟩
theorem Mid.stay (h : Mid w0 W pv own mS mR vm) : ∃ A c, vm = .slice A (ints mR).length c ∧ (ints mR).length ≤ c ∧ Stay own W A (ints mR) := stay_of_R h.rm (fun _ _ e => e)
/-- the program's Join -/
theorem Mid.join (h : Mid w0 W pv own mS mR vm) (a b : Int) :
    Calls Try.prog 17 #[pv, .int .i64 a, .int .i64 b] W fun e w' => e = .returned (.bool (joinOf mS a b).2) ∧ Mid w0 w' pv own (joinOf mS a b).1 mR vm ∧ Frame own W w' :=
  (SNow.join_ (w := W) ⟨h.sx, Frame.refl _ _⟩ a b).mono fun e w' ⟨h1, h2⟩ => ⟨h1, ⟨h2.1, R_framed h.rm h2.2 (fun _ _ _ e1 e2 => e1 e2), h.old.trans (h2.2.below h.old.size h.lo), h.lo⟩, h2.2⟩
/-- the document's -/
theorem Mid.rjoin (h : Mid w0 W pv own mS mR vm) (hn : mR.length ≤ 9000000) (a b : Int) :
    Calls Try.prog 19 #[vm, .int .i64 a, .int .i64 b] W fun e w' => ∃ v, e = .returned (.tuple #[v, .bool (joinOf mR a b).2]) ∧ Mid w0 w' pv own mS (joinOf mR a b).1 v ∧ Kept W w' (fun k => vm.ownBlock = some k) := by
  obtain ⟨k, hk⟩ := PureR.join_ref hn a b
  have ho : Kd.R (Kd.int .i64) 3 W w0.heap.size (fun k => vm.ownBlock = some k) vm (ints mR) := ⟨fun k hk => hk, h.rm.2⟩
  refine (GAll.tangramref05_Join.calls k (fun k => vm.ownBlock = some k) vm (ints mR) a b _ _ w0 W h.old ho hk).mono ?_
  rintro e w' ⟨v, h1, h2, h3, h4⟩
  refine ⟨v, h1, ⟨?_, ?_, h3, h.lo⟩, h4⟩
  · have f : Frame (fun k => ¬ own k) W w' := ⟨h3.os.trans h.old.os.symm, h3.tape.trans h.old.tape.symm, h3.output.trans h.old.output.symm, h4.1, fun i hi hs => h4.2 i hi (fun e => hs (h.rm.1 i e))⟩
    exact h.sx.framed f (fun k hk e => e hk)
  · exact ⟨fun k hk => by
      rcases h2.1 k hk with h5 | h5
      · exact h.rm.1 k h5
      · exact fun e => by have := h.sx.hi k e; omega, h2.2⟩
theorem Mid.stayed {A : Option Addr} {n c : Nat} (h : Mid w0 W pv own mS mR (.slice A n c)) : n = (ints mR).length ∧ (ints mR).length ≤ c ∧ Stay own W A (ints mR) := by
  obtain ⟨A', c', e, h1, h2⟩ := h.stay
  injection e with e1 e2 e3
  subst e1 e2 e3
  exact ⟨rfl, h1, h2⟩
theorem Mid.vm_lt (h : Mid w0 W pv own mS mR vm) {k : Nat} (hk : vm.ownBlock = some k) : k < W.heap.size := (own_lt (Kd.own_of_R h.rm) hk).2
end
theorem Frame.cell {S : Nat → Prop} {w w' : World} (f : Frame S w w') {a : Addr} {v : Value} (h : w.cell? a = some v) (hs : ¬ S a.block) : w'.cell? a = some v := by
  have hb := cell_block h
  unfold World.cell? at h ⊢
  rw [f.block _ hb hs]
  exact h
/-- behind few and the two numbers, in either order -/
def Fk (W : World) (x y : Int) (xs : List Int) (s : Value × Nat) (w' : World) : Prop :=
  Kd.R (Kd.int .i64) 3 w' W.heap.size (fun k => k ≠ s.2) s.1 xs ∧ w'.heap[s.2]? = some (.cells #[.int .i64 x, .int .i64 y] 3 (0, 0)) ∧ Below W.heap.size W w' ∧ W.heap.size ≤ s.2
theorem Fk.one {W w7 : World} {x y : Int} {xs : List Int} {v : Value} (hR : Kd.R (Kd.int .i64) 3 w7 W.heap.size (fun _ => True) v xs) (hb : Below W.heap.size W w7) : Fk W x y xs (v, w7.heap.size) (w7.alloc (.cells #[.int .i64 x, .int .i64 y] 3 (0, 0))) := by
  have hb2 : Below w7.heap.size w7 (w7.alloc (.cells #[.int .i64 x, .int .i64 y] 3 (0, 0))) := (Below.refl _ _).alloc (Nat.le_refl _) _
  have h2 := R_framed hR (Below.toFrame hb2) (fun k _ hk _ e => by omega)
  exact ⟨⟨fun k hk => by have := (own_lt (Kd.own_of_R hR) hk).2; show k ≠ w7.heap.size; omega, h2.2⟩, heap_last _ _, hb.trans (hb2.mono hb.size), hb.size⟩
theorem Fk.two {W w8 : World} {x y : Int} {xs : List Int} {v : Value} (hR : Kd.R (Kd.int .i64) 3 w8 (W.alloc (.cells #[.int .i64 x, .int .i64 y] 3 (0, 0))).heap.size (fun _ => True) v xs) (hb : Below (W.alloc (.cells #[.int .i64 x, .int .i64 y] 3 (0, 0))).heap.size (W.alloc (.cells #[.int .i64 x, .int .i64 y] 3 (0, 0))) w8) : Fk W x y xs (v, W.heap.size) w8 := by
  have hb2 : Below W.heap.size W (W.alloc (.cells #[.int .i64 x, .int .i64 y] 3 (0, 0))) := (Below.refl _ _).alloc (Nat.le_refl _) _
  have hsz : (W.alloc (.cells #[.int .i64 x, .int .i64 y] 3 (0, 0))).heap.size = W.heap.size + 1 := by simp
  have ho := Kd.own_of_R hR
  exact ⟨Kd.R_of_own (own_weaken ho (by omega)) (fun k hk => by have := (own_lt ho hk).1; show k ≠ W.heap.size; omega), (hb.block _ (by omega)).trans (heap_last _ _), hb2.trans (hb.mono (by omega)), Nat.le_refl _⟩
theorem two_reads {w : World} {b : Nat} {x y : Int} (h : w.heap[b]? = some (.cells #[.int .i64 x, .int .i64 y] 3 (0, 0))) : ReadsRow ((Kd.int .i64).K w) 1 w (some ⟨b, 0, none⟩) 2 [x, y] := by
  refine ⟨rfl, by decide, fun _ => ⟨_, rfl, fun j p hj => ?_⟩⟩
  rcases j with _ | _ | j
  · obtain rfl : x = p := by simpa using hj
    exact ⟨[.int .i64 x], rfl, rfl, fun i u hu => by
      rcases i with _ | i
      · obtain rfl : Value.int .i64 x = u := by simpa using hu
        exact (blk_cell h 0).trans rfl
      · simp at hu⟩
  · obtain rfl : y = p := by simpa using hj
    exact ⟨[.int .i64 y], rfl, rfl, fun i u hu => by
      rcases i with _ | i
      · obtain rfl : Value.int .i64 y = u := by simpa using hu
        exact (blk_cell h 1).trans rfl
      · simp at hu⟩
  · simp at hj
end Go.Proofs.Ytoajoklpbfehiaa.Sets
