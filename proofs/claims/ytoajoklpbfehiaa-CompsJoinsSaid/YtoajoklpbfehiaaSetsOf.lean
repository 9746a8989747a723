/- DERIVED. The walk of comps.Of, over a contract of simple.Valid. -/
import Derived.Test.YtoajoklpbfehiaaSetsNum
namespace Go.Proofs.Ytoajoklpbfehiaa.Sets
open Go.RowKit Go.Proofs.YtoajoklpbfehiaaW.PrintWords Go.Proofs.YtoajoklpbfehiaaW.PrintLast Go.Proofs.YtoajoklpbfehiaaW.PrintMore
set_option linter.unusedVariables false
set_option linter.unusedSimpArgs false

/-- the pair at a place -/
def pe (es : List (Int × Int)) (i : Nat) : Int × Int := es.getD i (0, 0)
/-- a list of pairs that is read -/
def Pairs (w : World) (A : Option Addr) (es : List (Int × Int)) : Prop := ∀ i : Nat, i < es.length → ∃ ad, A = some ad ∧ w.cell? (ad.add (i * 2)) = some (.int .i64 (pe es i).1) ∧ w.cell? ⟨(ad.add (i * 2)).block, (ad.add (i * 2)).off + 1, none⟩ = some (.int .i64 (pe es i).2)
theorem cell_block {w : World} {a : Addr} {v : Value} (h : w.cell? a = some v) : a.block < w.heap.size := by
  unfold World.cell? at h
  by_cases hk : a.block < w.heap.size
  · exact hk
  · rw [Array.getElem?_eq_none (by omega)] at h; simp at h
theorem Pairs.below {w w' : World} {A : Option Addr} {es : List (Int × Int)} (h : Pairs w A es) (hb : Below w.heap.size w w') : Pairs w' A es := by
  intro i hi
  obtain ⟨ad, e, h1, h2⟩ := h i hi
  exact ⟨ad, e, by rw [hb.cell (cell_block h1)]; exact h1, by rw [hb.cell (cell_block h2)]; exact h2⟩
/-- all pairs joined, one behind the other -/
def joinAll (m : List Nat) (es : List (Int × Int)) : List Nat := es.foldl (fun m e => (joinOf m e.1 e.2).1) m
theorem joinOf_length (m : List Nat) (a b : Int) : (joinOf m a b).1.length = m.length := by
  unfold joinOf; split
  · exact glue_length _ _ _
  · rfl
theorem joinAll_length (es : List (Int × Int)) : ∀ m : List Nat, (joinAll m es).length = m.length := by
  induction es with
  | nil => intro m; rfl
  | cons e es ih => intro m; unfold joinAll at ih ⊢; rw [List.foldl_cons, ih, joinOf_length]
theorem joinAll_take (m : List Nat) (es : List (Int × Int)) {k : Nat} (h : k < es.length) : joinAll m (es.take (k + 1)) = (joinOf (joinAll m (es.take k)) (pe es k).1 (pe es k).2).1 := by
  unfold joinAll
  rw [List.take_succ_eq_append_getElem h, List.foldl_append]
  simp [pe, List.getD_eq_getElem?_getD, h]
theorem Now.at_ {p bP bS : Nat} {m : List Nat} {w w' : World} (h : Now p bP bS m w w') : At w' p bP bS m := h.1

/-- what Of needs of Valid: that it says yes and makes nothing that was there other -/
def SaysYes (n : Int) (A : Option Addr) (l c : Nat) (w : World) : Prop := ∀ w', Below w.heap.size w w' →
  Calls Try.prog 34 #[.agg #[.int .i64 n, .slice A l c]] w' fun e w'' => e = .returned (.bool true) ∧ Below w'.heap.size w' w''
def SaysNo (n : Int) (A : Option Addr) (l c : Nat) (w : World) : Prop := ∀ w', Below w.heap.size w w' →
  Calls Try.prog 34 #[.agg #[.int .i64 n, .slice A l c]] w' fun e w'' => e = .returned (.bool false) ∧ Below w'.heap.size w' w''

set_option maxHeartbeats 1000000 in
theorem of_no (n : Int) (A : Option Addr) (l c : Nat) (w : World) (hv : SaysNo n A l c w) :
    Calls Try.prog 14 #[.agg #[.int .i64 n, .slice A l c]] w fun e w' => e = .returned (.tuple #[.slice none 0 0, .int .i64 0, .int .i64 1]) ∧ Below w.heap.size w w' := by
  have B0 := (Below.refl w.heap.size w).alloc (Nat.le_refl _) (.cells #[.int .i64 n, .slice A l c] 31 (0, 0))
  have HV := Aside0.mk (hv _ B0)
  have HB := Aside0.mk B0
  clear hv B0
  go_enter Try.func14, Try.ntmps14
  go_wp2_with (go_at_call 34; refine (HV.out).mono ?_; rintro e w' ⟨rfl, hb⟩; have HB2 := Aside0.mk (HB.out.trans (hb.mono (by simp))); clear hb)
  go_ret3
  exact ⟨rfl, HB2.out⟩

set_option maxHeartbeats 1000000 in
theorem of_yes (n : Nat) (A : Option Addr) (c : Nat) (es : List (Int × Int)) (w : World) (hv : SaysYes n A es.length c w) (hn : n ≤ 1048576) (he : Pairs w A es) (hl : es.length ≤ 9223372036854775807) :
    Calls Try.prog 14 #[.agg #[.int .i64 (n : Int), .slice A es.length c]] w fun e w' => ∃ bo, e = .returned (.tuple #[.slice (some ⟨bo, 0, none⟩) n n, .int .i64 (((numTo (joinAll (List.range n) es) n).2 : Nat) : Int), .int .i64 0]) ∧ w.heap.size ≤ bo ∧ RowAt w' bo (numTo (joinAll (List.range n) es) n).1 ∧ Below w.heap.size w w' := by
  have B0 := (Below.refl w.heap.size w).alloc (Nat.le_refl _) (.cells #[.int .i64 (n : Int), .slice A es.length c] 31 (0, 0))
  have HV := Aside0.mk (hv _ B0)
  have HB := Aside0.mk B0
  have HX := Aside0.mk (heap_last w (.cells #[.int .i64 (n : Int), .slice A es.length c] 31 (0, 0)))
  have HE := Aside0.mk he
  clear hv B0 he
  go_enter Try.func14, Try.ntmps14
  go_wp2_with fail
  refine (HV.out).mono ?_
  rintro e w2 ⟨rfl, hb⟩
  have HB2 := Aside0.mk (HB.out.trans (hb.mono (by simp)))
  have HX2 := Aside0.mk ((hb.block w.heap.size (by simp)).trans HX.out)
  clear hb HB HX HV
  have x0 : w2.cell? ⟨w.heap.size, 0, none⟩ = some (.int .i64 (n : Int)) := (blk_cell HX2.out 0).trans rfl
  go_wp2_with fail
  refine (new_yes n _ hn).mono ?_
  rintro e w3 ⟨p, bP, bS, rfl, hp1, hp2, hp3, hat, hb⟩
  have hsz := HB2.out.size
  have HB3 := Aside0.mk (HB2.out.trans (hb.mono hsz))
  have HX3 := Aside0.mk ((hb.block w.heap.size (blk_lt HX2.out)).trans HX2.out)
  have HPb : Aside0 (w.heap.size ≤ p ∧ w.heap.size ≤ bP ∧ w.heap.size ≤ bS) := ⟨by omega⟩
  have HA := Aside0.mk hat
  clear hb hat hp1 hp2 hp3 x0 hsz HX2 HB2
  have x1 : w3.cell? ⟨w.heap.size, 1, none⟩ = some (.slice A es.length c) := (blk_cell HX3.out 1).trans rfl
  go_wp2
  clear x1 HX3
  go_loopw [23] (fun v wr => ∃ i : Nat, v = .int .i64 (i : Int) ∧ i ≤ es.length ∧ Aside0 (At wr p bP bS (joinAll (List.range n) (es.take i))) ∧ Aside0 (Below w.heap.size w wr)) (fun v _ => es.length - (intOf v).toNat)
  case atStart => exact ⟨0, rfl, by omega, HA, HB3⟩
  case round =>
    clear HA HB3
    obtain ⟨i, rfl, hi, HA, HB⟩ := hrel
    by_cases hlt : i < es.length
    · obtain ⟨ad, eA, hc1, hc2⟩ := (HE.out.below HB.out) i hlt
      subst eA
      go_wp2_with fail
      obtain ⟨P1, S1, H1⟩ := HA.out
      have hpb := HPb.out
      have hsz := HB.out.size
      have H2 : AtPS (wr.alloc (.cells #[.int .i64 (pe es i).1, .int .i64 (pe es i).2] 33 (0, 0))) p bP bS (joinAll (List.range n) (es.take i)) P1 S1 := ⟨heap_old H1.obj _, heap_old H1.par _, heap_old H1.siz _, H1.ne1, H1.ne2, H1.ne3, H1.small, H1.rep, H1.sized⟩
      have hF : Frame (Own p bP bS) wr (wr.alloc (.cells #[.int .i64 (pe es i).1, .int .i64 (pe es i).2] 33 (0, 0))) := (Frame.refl _ _).alloc _
      have H3 := Aside0.mk H2
      have HF := Aside0.mk hF
      clear H1 H2 hF
      refine (join_calls p bP bS _ P1 S1 _ _ _ H3.out).mono ?_
      rintro e w5 ⟨rfl, hA, hF⟩
      have HA2 := Aside0.mk hA
      have HB2 := Aside0.mk (HB.out.trans ((HF.out.trans hF).below hsz (fun k hk => by unfold Own at hk; omega)))
      have hlen := joinAll_take (List.range n) es hlt
      rw [← hlen] at HA2
      clear hA hF hlen
      go_wp2
      go_roundw
      case rel => exact ⟨i + 1, by go_num, by omega, HA2, HB2⟩
      case measure => simp [intOf]; omega
    · obtain rfl : i = es.length := by omega
      obtain ⟨P1, S1, H1⟩ := HA.out
      have H := Aside0.mk H1
      have hpb := HPb.out
      have hsz := HB.out.size
      clear H1
      go_wp2_with fail
      refine (numbers_calls p bP bS _ P1 S1 _ H.out).mono ?_
      rintro e w5 ⟨bo, rfl, hbo, hrow, hA, hF⟩
      rw [List.take_length, joinAll_length, List.length_range] at hrow ⊢
      have HR := Aside0.mk hrow
      have HB2 := Aside0.mk (HB.out.trans (hF.below hsz (fun k hk => by unfold Own at hk; omega)))
      clear hrow hA hF
      go_wp2
      go_ret3
      exact ⟨bo, rfl, by omega, HR.out, HB2.out⟩
end Go.Proofs.Ytoajoklpbfehiaa.Sets
