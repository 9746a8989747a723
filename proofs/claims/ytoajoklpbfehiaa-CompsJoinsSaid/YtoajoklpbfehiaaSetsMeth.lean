/- DERIVED. The walks of the methods of comps.Sets. -/
import Derived.Test.YtoajoklpbfehiaaSetsRoot
namespace Go.Proofs.Ytoajoklpbfehiaa.Sets
open Go.RowKit Go.Proofs.YtoajoklpbfehiaaW.PrintWords Go.Proofs.YtoajoklpbfehiaaW.PrintLast Go.Proofs.YtoajoklpbfehiaaW.PrintMore
attribute [local go_sem] max2_int min2_int max_two min_two
set_option linter.unusedVariables false
set_option linter.unusedSimpArgs false

/-- a Sets in memory: its block, its two rows; by number the least of its set -/
structure AtPS (w : World) (p bP bS : Nat) (m P S : List Nat) : Prop where
  obj : w.heap[p]? = some (.cells #[.slice (some ⟨bP, 0, none⟩) m.length m.length, .slice (some ⟨bS, 0, none⟩) m.length m.length, .int .i64 ((sets m : Nat) : Int)] 68 (0, 0))
  par : w.heap[bP]? = some (.cells (nv P) 3 (0, 0))
  siz : w.heap[bS]? = some (.cells (nv S) 3 (0, 0))
  ne1 : p ≠ bP
  ne2 : p ≠ bS
  ne3 : bP ≠ bS
  small : m.length ≤ 1048576
  rep : Rep P m
  sized : Sized S m
def At (w : World) (p bP bS : Nat) (m : List Nat) : Prop := ∃ P S, AtPS w p bP bS m P S
def Own (p bP bS : Nat) (k : Nat) : Prop := k = p ∨ k = bP ∨ k = bS
def Now (p bP bS : Nat) (m : List Nat) (w w' : World) : Prop := At w' p bP bS m ∧ Frame (Own p bP bS) w w'
/-- is it a number of the sets -/
def ok (m : List Nat) (a : Int) : Bool := decide (0 ≤ a) && decide (a < (m.length : Int))
theorem ok_nat {m : List Nat} {a : Int} (h : ok m a = true) : ∃ i : Nat, a = (i : Int) ∧ i < m.length := by
  simp only [ok, Bool.and_eq_true, decide_eq_true_eq] at h
  exact ⟨a.toNat, by omega, by omega⟩
theorem ok_of {m : List Nat} {i : Nat} (h : i < m.length) : ok m (i : Int) = true := by
  simp only [ok, Bool.and_eq_true, decide_eq_true_eq]; omega
theorem AtPS.cell0 {w : World} {p bP bS : Nat} {m P S : List Nat} (h : AtPS w p bP bS m P S) : w.cell? ⟨p, 0, none⟩ = some (.slice (some ⟨bP, 0, none⟩) m.length m.length) := (blk_cell h.obj 0).trans rfl
theorem AtPS.cell1 {w : World} {p bP bS : Nat} {m P S : List Nat} (h : AtPS w p bP bS m P S) : w.cell? ⟨p, 1, none⟩ = some (.slice (some ⟨bS, 0, none⟩) m.length m.length) := (blk_cell h.obj 1).trans rfl
theorem AtPS.cell2 {w : World} {p bP bS : Nat} {m P S : List Nat} (h : AtPS w p bP bS m P S) : w.cell? ⟨p, 2, none⟩ = some (.int .i64 ((sets m : Nat) : Int)) := (blk_cell h.obj 2).trans rfl
theorem AtPS.cellS {w : World} {p bP bS : Nat} {m P S : List Nat} (h : AtPS w p bP bS m P S) {i : Nat} (hi : i < m.length) : w.cell? ⟨bS, gt m i, none⟩ = some (.int .i64 ((many m (gt m i) : Nat) : Int)) := by
  have h1 := h.rep.ml hi
  have h2 := h.sized.len
  rw [nv_cell h.siz (i := gt m i) (by omega), h.sized.size _ (by omega) (h.rep.mm hi)]
/-- behind a walk of root -/
theorem AtPS.climbed {w w' : World} {p bP bS : Nat} {m P S : List Nat} (h : AtPS w p bP bS m P S) (k : Climbed bP 3 m w w') : ∃ Q, AtPS w' p bP bS m Q S ∧ Frame (Own p bP bS) w w' := by
  obtain ⟨Q, hr, hb, hf⟩ := k
  exact ⟨Q, ⟨hf.blk h.obj h.ne1, hb, hf.blk h.siz (Ne.symm h.ne3), h.ne1, h.ne2, h.ne3, h.small, hr, h.sized⟩, hf.mono fun _ e => .inr (.inl e)⟩
theorem AtPS.drewN {w : World} {p bP bS : Nat} {m P S : List Nat} (h : AtPS w p bP bS m P S) (n : Nat) : AtPS (w.drewN n) p bP bS m P S := ⟨h.obj, h.par, h.siz, h.ne1, h.ne2, h.ne3, h.small, h.rep, h.sized⟩
theorem AtPS.drew {w : World} {p bP bS : Nat} {m P S : List Nat} (h : AtPS w p bP bS m P S) : AtPS w.drew p bP bS m P S := ⟨h.obj, h.par, h.siz, h.ne1, h.ne2, h.ne3, h.small, h.rep, h.sized⟩

set_option maxHeartbeats 400000 in
theorem has_calls (p bP bS : Nat) (m P S : List Nat) (a : Int) (w : World) (h : AtPS w p bP bS m P S) :
    Calls Try.prog 32 #[.pointer (some ⟨p, 0, none⟩), .int .i64 a] w fun e w' => e = .returned (.bool (ok m a)) ∧ w = w' := by
  have h0 := h.cell0
  clear h
  go_enter Try.func32, Try.ntmps32
  go_wp2_with (go_at_call 43; refine (known_calls _ _ _ _ _).mono ?_; rintro e w' ⟨rfl, rfl⟩)
  go_ret
  exact ⟨rfl, rfl⟩

theorem has_same {p bP bS : Nat} {m P S : List Nat} {a : Int} {r : Bool} (hr : ok m a = r) (w : World) (h : AtPS w p bP bS m P S) :
    Calls Try.prog 32 #[.pointer (some ⟨p, 0, none⟩), .int .i64 a] w fun e w' => e = .returned (.bool r) ∧ w' = w :=
  (has_calls p bP bS m P S a w h).mono fun _ _ ⟨h1, h2⟩ => ⟨by rw [h1, hr], h2.symm⟩

theorem has_keep {p bP bS : Nat} {m P S : List Nat} {a : Int} {r : Bool} (hr : ok m a = r) (w : World) (h : AtPS w p bP bS m P S) :
    Calls Try.prog 32 #[.pointer (some ⟨p, 0, none⟩), .int .i64 a] w fun e w' => e = .returned (.bool r) ∧ w = w' :=
  (has_calls p bP bS m P S a w h).mono fun _ _ ⟨h1, h2⟩ => ⟨by rw [h1, hr], h2⟩

set_option maxHeartbeats 400000 in
theorem has_nil (a : Int) (w : World) :
    Calls Try.prog 32 #[.pointer none, .int .i64 a] w fun e w' => e = .returned (.bool false) ∧ w = w' := by
  go_enter Try.func32, Try.ntmps32
  go_wp2
  go_ret
  exact ⟨rfl, rfl⟩

set_option maxHeartbeats 400000 in
theorem count_calls (p bP bS : Nat) (m P S : List Nat) (w : World) (h : AtPS w p bP bS m P S) :
    Calls Try.prog 12 #[.pointer (some ⟨p, 0, none⟩)] w fun e w' => e = .returned (.int .i64 ((sets m : Nat) : Int)) ∧ w = w' := by
  have h0 := h.cell2
  clear h
  go_enter Try.func12, Try.ntmps12
  go_wp2
  go_ret
  exact ⟨rfl, rfl⟩

set_option maxHeartbeats 400000 in
theorem count_nil (w : World) :
    Calls Try.prog 12 #[.pointer none] w fun e w' => e = .returned (.int .i64 0) ∧ w = w' := by
  go_enter Try.func12, Try.ntmps12
  go_wp2
  go_ret
  exact ⟨rfl, rfl⟩

/-- what Least answers -/
def leastOf (m : List Nat) (a : Int) : Int := if ok m a then ((gt m a.toNat : Nat) : Int) else -1

set_option maxHeartbeats 400000 in
theorem least_calls (p bP bS : Nat) (m P S : List Nat) (a : Int) (w : World) (h : AtPS w p bP bS m P S) :
    Calls Try.prog 13 #[.pointer (some ⟨p, 0, none⟩), .int .i64 a] w fun e w' => e = .returned (.int .i64 (leastOf m a)) ∧ Now p bP bS m w w' := by
  have H := Aside0.mk h
  have h0 := h.cell0
  clear h
  cases hk : ok m a
  · have e : leastOf m a = -1 := by simp [leastOf, hk]
    have E := Aside0.mk e
    have K := Aside0.mk hk
    clear e hk
    go_enter Try.func13, Try.ntmps13
    go_wp2_with (go_at_call 32; refine (has_calls _ _ _ _ _ _ _ _ H.out).mono ?_; rw [K.out]; rintro e w' ⟨rfl, rfl⟩)
    go_ret
    exact ⟨by rw [E.out]; rfl, ⟨P, S, H.out⟩, Frame.refl _ _⟩
  · obtain ⟨i, rfl, hi⟩ := ok_nat hk
    have e : leastOf m (i : Int) = ((gt m i : Nat) : Int) := by simp [leastOf, hk]
    have E := Aside0.mk e
    have K := Aside0.mk hk
    clear e hk
    go_enter Try.func13, Try.ntmps13
    go_wp2_with (first | (go_at_call 32; refine (has_calls _ _ _ _ _ _ _ _ H.out).mono ?_; rw [K.out]; rintro e w' ⟨rfl, rfl⟩) | (go_at_call 33; refine (root_calls _ _ _ _ _ _ _ _ H.out.par H.out.rep hi rfl H.out.small).mono ?_; rintro e w' ⟨rfl, hc⟩; have HC := Aside0.mk hc; clear hc))
    go_ret
    obtain ⟨Q, h1, h2⟩ := H.out.climbed HC.out
    exact ⟨by rw [E.out]; rfl, ⟨Q, S, h1⟩, h2⟩
end Go.Proofs.Ytoajoklpbfehiaa.Sets
