/- DERIVED. The walk of the method numbers of comps.Sets. -/
import Derived.Test.YtoajoklpbfehiaaSetsNew
namespace Go.Proofs.Ytoajoklpbfehiaa.Sets
open Go.RowKit Go.Proofs.YtoajoklpbfehiaaW.PrintWords Go.Proofs.YtoajoklpbfehiaaW.PrintLast Go.Proofs.YtoajoklpbfehiaaW.PrintMore
set_option linter.unusedVariables false
set_option linter.unusedSimpArgs false

/-- of the first k numbers each one's set's place, and how many sets they are in -/
def numTo (m : List Nat) : Nat → List Nat × Nat
  | 0 => ([], 0)
  | k + 1 => if gt m k < k then ((numTo m k).1 ++ [gt (numTo m k).1 (gt m k)], (numTo m k).2) else ((numTo m k).1 ++ [(numTo m k).2], (numTo m k).2 + 1)
theorem numTo_length (m : List Nat) (k : Nat) : (numTo m k).1.length = k := by
  induction k with
  | zero => rfl
  | succ k ih => unfold numTo; split <;> simp [ih]
theorem numTo_le (m : List Nat) (k : Nat) : (numTo m k).2 ≤ k := by
  induction k with
  | zero => simp [numTo]
  | succ k ih => unfold numTo; split <;> simp <;> omega
/-- the row while it is filled -/
def numRow (m : List Nat) (n k : Nat) : List Nat := (numTo m k).1 ++ List.replicate (n - k) 0
theorem numRow_length (m : List Nat) {n k : Nat} (h : k ≤ n) : (numRow m n k).length = n := by simp [numRow, numTo_length]; omega
theorem numRow_zero (m : List Nat) (n : Nat) : numRow m n 0 = List.replicate n 0 := by simp [numRow, numTo]
theorem numRow_self (m : List Nat) (n : Nat) : numRow m n n = (numTo m n).1 := by simp [numRow]
theorem numRow_get (m : List Nat) {n k i : Nat} (hi : i < k) (h : k ≤ n) : gt (numRow m n k) i = gt (numTo m k).1 i := by
  unfold numRow gt
  simp only [List.getD_eq_getElem?_getD]
  rw [List.getElem?_append_left (by rw [numTo_length]; exact hi)]
theorem numRow_old (m : List Nat) {n k : Nat} (h : k < n) (hlt : gt m k < k) : (numRow m n k).set k (gt (numRow m n k) (gt m k)) = numRow m n (k + 1) := by
  rw [numRow_get m hlt (by omega)]
  unfold numRow
  rw [set_end _ _ _ _ _ (numTo_length m k) h]
  conv => rhs; unfold numTo
  rw [if_pos hlt]
theorem numRow_new (m : List Nat) {n k : Nat} (h : k < n) (hge : ¬ gt m k < k) : (numRow m n k).set k (numTo m k).2 = numRow m n (k + 1) := by
  unfold numRow
  rw [set_end _ _ _ _ _ (numTo_length m k) h]
  conv => rhs; unfold numTo
  rw [if_neg hge]
theorem numTo_old {m : List Nat} {k : Nat} (hlt : gt m k < k) : (numTo m (k + 1)).2 = (numTo m k).2 := by conv => lhs; unfold numTo; rw [if_pos hlt]
theorem numTo_new {m : List Nat} {k : Nat} (hge : ¬ gt m k < k) : (numTo m (k + 1)).2 = (numTo m k).2 + 1 := by conv => lhs; unfold numTo; rw [if_neg hge]

/-- a row of the call's own: its block -/
def RowAt (w : World) (b : Nat) (l : List Nat) : Prop := w.heap[b]? = some (.cells (nv l) 3 (0, 0))

theorem Frame.newCell {S : Nat → Prop} {a b : World} (h : Frame S a b) {i : Nat} (u : Value) : Frame S a (b.setCell ⟨a.heap.size, i, none⟩ u) :=
  ⟨h.os, h.tape, h.output, by simpa [World.setCell] using h.size, fun k hk hs => (Below.heap_setCell _ _ _ _ (by simp; omega)).trans (h.block k hk hs)⟩

set_option maxHeartbeats 1000000 in
theorem numbers_calls (p bP bS : Nat) (m P S : List Nat) (w : World) (h : AtPS w p bP bS m P S) :
    Calls Try.prog 35 #[.pointer (some ⟨p, 0, none⟩)] w fun e w' => ∃ bo, e = .returned (.tuple #[.slice (some ⟨bo, 0, none⟩) m.length m.length, .int .i64 (((numTo m m.length).2 : Nat) : Int)]) ∧ w.heap.size ≤ bo ∧ RowAt w' bo (numTo m m.length).1 ∧ Now p bP bS m w w' := by
  have H := Aside0.mk h
  have h0 := h.cell0
  have hs := h.small
  have mk1 := print_make (P := Try.prog) 34 3 .i64 8 Try.underlying34 info_int (by decide) m.length (by omega)
  rw [made_nv, ← numRow_zero m] at mk1
  have hp := blk_lt h.obj
  have hP := blk_lt h.par
  have hS := blk_lt h.siz
  clear h
  go_enter Try.func35, Try.ntmps35
  go_wp2
  clear mk1 h0
  have H1 : Aside0 (At (w.alloc (.cells (nv (numRow m m.length 0)) 3 (0, 0))) p bP bS m) := ⟨P, S, heap_old H.out.obj _, heap_old H.out.par _, heap_old H.out.siz _, H.out.ne1, H.out.ne2, H.out.ne3, H.out.small, H.out.rep, H.out.sized⟩
  have HO : Aside0 (RowAt (w.alloc (.cells (nv (numRow m m.length 0)) 3 (0, 0))) w.heap.size (numRow m m.length 0)) := ⟨heap_last _ _⟩
  have HF : Aside0 (Frame (Own p bP bS) w (w.alloc (.cells (nv (numRow m m.length 0)) 3 (0, 0)))) := ⟨(Frame.refl _ _).alloc _⟩
  generalize w.alloc (.cells (nv (numRow m m.length 0)) 3 (0, 0)) = w1 at H1 HO HF ⊢
  clear H
  go_loopw [5, 16] (fun c v wr => ∃ i : Nat, v = .int .i64 (i : Int) ∧ i ≤ m.length ∧ c = .int .i64 (((numTo m i).2 : Nat) : Int) ∧ Aside0 (At wr p bP bS m) ∧ Aside0 (RowAt wr w.heap.size (numRow m m.length i)) ∧ Aside0 (Frame (Own p bP bS) w wr)) (fun _ v _ => m.length - (intOf v).toNat)
  case atStart => exact ⟨0, rfl, by omega, rfl, H1, HO, HF⟩
  case round =>
    clear H1 HO HF
    obtain ⟨i, rfl, hi, rfl, HA, HO, HF⟩ := hrel
    obtain ⟨P1, S1, H1⟩ := HA.out
    have h0 := H1.cell0
    have H := Aside0.mk H1
    have hcl := numTo_le m i
    clear H1
    by_cases hlt : i < m.length
    · have hml := H.out.rep.ml hlt
      by_cases hold : gt m i < i
      · have HN := Aside0.mk (numRow_length m (n := m.length) (k := i) hi)
        go_wp2_with (go_at_call 33; refine (root_calls bP m.length m.length i _ P1 m _ H.out.par H.out.rep hlt rfl H.out.small).mono ?_; rintro e w' ⟨rfl, hc⟩; have HC := Aside0.mk (H.out.climbed hc); have HO2 := Aside0.mk (hc.choose_spec.2.2.blk HO.out (by omega)); clear hc; have c1 := nv_cell HO2.out (i := gt m i) (by rw [HN.out]; omega); have c2 := nv_cell HO2.out (i := i) (by rw [HN.out]; omega); have f1 := blk_free HO2.out i)
        obtain ⟨Q, h1, h2⟩ := HC.out
        have hb : ¬ Own p bP bS w.heap.size := by unfold Own; omega
        go_roundw
        case rel =>
          refine ⟨i + 1, by go_num, by omega, by rw [numTo_old hold], ⟨Q, S1, heap_setCell_ne h1.obj (by omega), heap_setCell_ne h1.par (by omega), heap_setCell_ne h1.siz (by omega), h1.ne1, h1.ne2, h1.ne3, h1.small, h1.rep, h1.sized⟩, ⟨?_⟩, ⟨?_⟩⟩
          · have h3 : RowAt _ _ _ := blk_set_nv (i := i) (x := gt (numRow m m.length i) (gt m i)) HO2.out
            rw [numRow_old m hlt hold] at h3
            exact h3
          · have h3 := HF.out.trans h2
            exact h3.newCell _
        case measure => simp [intOf]; omega
      · have hge : gt m i = i := by omega
        have HN := Aside0.mk (numRow_length m (n := m.length) (k := i) hi)
        go_wp2_with (go_at_call 33; refine (root_calls bP m.length m.length i _ P1 m _ H.out.par H.out.rep hlt rfl H.out.small).mono ?_; rintro e w' ⟨rfl, hc⟩; have HC := Aside0.mk (H.out.climbed hc); have HO2 := Aside0.mk (hc.choose_spec.2.2.blk HO.out (by omega)); clear hc; have c1 := nv_cell HO2.out (i := gt m i) (by rw [HN.out]; omega); have c2 := nv_cell HO2.out (i := i) (by rw [HN.out]; omega); have f1 := blk_free HO2.out i)
        obtain ⟨Q, h1, h2⟩ := HC.out
        have hb : ¬ Own p bP bS w.heap.size := by unfold Own; omega
        go_roundw
        case rel =>
          refine ⟨i + 1, by go_num, by omega, by rw [numTo_new hold]; go_num, ⟨Q, S1, heap_setCell_ne h1.obj (by omega), heap_setCell_ne h1.par (by omega), heap_setCell_ne h1.siz (by omega), h1.ne1, h1.ne2, h1.ne3, h1.small, h1.rep, h1.sized⟩, ⟨?_⟩, ⟨?_⟩⟩
          · have h3 : RowAt _ _ _ := blk_set_nv (i := i) (x := (numTo m i).2) HO2.out
            rw [numRow_new m hlt hold] at h3
            exact h3
          · have h3 := HF.out.trans h2
            exact h3.newCell _
        case measure => simp [intOf]; omega
    · obtain rfl : i = m.length := by omega
      go_wp2
      go_ret2
      have h3 := HO.out
      rw [numRow_self] at h3
      exact ⟨_, rfl, Nat.le_refl _, h3, HA.out, HF.out⟩
end Go.Proofs.Ytoajoklpbfehiaa.Sets
