/- DERIVED. Texts of this seat, one behind the other: lemmas and walks that the statement FacesOwn needs. No condition. -/
import Derived.Test.YtmikcfddipldnaaCFacesOwnf
import Derived.Test.YtmikcfddipldnaaCFacesOwne
namespace Go.Proofs.Ytmikcfddipldnaa.Rot
open Go.RowKit Go.Proofs.YtmikcfddipldnaaW.PrintWords Go.Proofs.YtmikcfddipldnaaW.PrintLast Go.Proofs.YtmikcfddipldnaaW.PrintMore Go.Proofs.Ytmikcfddipldnaa.GAll Go.Proofs.Ytmikcfddipldnaa.Mem Go.Proofs.Ytmikcfddipldnaa.Ring Go.Proofs.Ytmikcfddipldnaa.Face
set_option linter.unusedVariables false
set_option linter.unusedSimpArgs false
section
variable {n : Nat} {l : List Ed} {r : List (List Int)}
theorem comps_ev (hg : PureV.Good (n : Int) l) : Ev (fun k => comps_Of.f k (n : Int) l) (ogOf n l, (parts n l : Int), 0) := by
 obtain ⟨b, h1, h2, h3⟩ := PureV.valid (n : Int) l
 rw [h3.2 hg] at h1
 unfold comps_Of.f
 exact Ev.bind h1 (Ev.congr (fun k => if_pos rfl) (Ev.congr (fun k => if_pos ⟨hg.1, hg.2.1⟩) (Ev.now _)))
theorem parts_le (hg : PureV.Good (n : Int) l) : parts n l ≤ n := by
 rw [parts_sets]
 have h := Sets.sets_le (parT n l l.length)
 have := (parT_part n l l.length).len
 omega
theorem IsMap.fitG (hm : IsMap n l r) : Cnt.fitB (ogOf n l) (ends l) (facesL (stOf l r)) (parts n l) = true := by
 obtain ⟨F, e, hF⟩ := hm.faces
 have hc := hm.comp
 have hl := hm.lists
 have hp := parts_le hm.good
 have hg := hm.good
 refine Cnt.fit_of.2 ⟨by have := hg.2.1; omega, by rw [hc.len]; have := hg.2.1; omega, by rw [ends_length]; exact hg.2.2.1, hl.1, hc.key, fun j hj => ?_, fun q hq => ?_⟩
 · rw [ends_length] at hj
   obtain ⟨⟨a, b, c⟩, _⟩ := hg.2.2.2 j hj
   rw [pe_ends hj, hc.len]
   simp only
   omega
 · rw [e, List.length_map] at hq
   have e2 : gl (facesL (stOf l r)) q = zN F[q] := by
     rw [e]
     unfold gl
     rw [List.getD_eq_getElem?_getD, List.getElem?_map, List.getElem?_eq_getElem hq]
     rfl
   rw [e2]
   have hL : F[q] ∈ F := List.getElem_mem hq
   have hr := hF.dec.ring _ hL
   generalize F[q] = L at hL hr
   cases L with
   | nil => exact absurd rfl hr.1
   | cons a t =>
     have := faces_mem hm hF hL a (List.mem_cons_self ..)
     refine ⟨by simp [zN], ?_⟩
     show 0 ≤ (a : Int) ∧ (a : Int) < _
     rw [ends_length]
     omega
def genus (n : Nat) (l : List Ed) (r : List (List Int)) : Int := Cnt.genusSum (ogOf n l) (ends l) (facesL (stOf l r)) (parts n l)
theorem genus_ok (hm : IsMap n l r) (h : Ev (fun k => rot_Check.f k (n : Int) l r) (0, 0)) : Ev (fun k => faces_Genus.f k (n : Int) l r) (genus n l r, 0) := by
 unfold faces_Genus.f
 refine Ev.bind (of_ok hm h) (Ev.congr (fun k => if_pos rfl) (Ev.bind (comps_ev hm.good) (Ev.congr (fun k => ?_) (Ev.now _))))
 unfold faces_Genus.told
 simp only
 rw [Int.toNat_natCast]
 exact if_pos ⟨trivial, by omega, hm.fitG⟩
theorem genus_bad {v e : Int} {a : Int} (he : e ≠ 0) (h : Ev (fun k => rot_Check.f k a l r) (v, e)) : Ev (fun k => faces_Genus.f k a l r) (0, e) := by
 unfold faces_Genus.f
 exact Ev.bind (of_bad he h) (Ev.congr (fun k => if_neg he) (Ev.now _))
theorem flat_ok (hm : IsMap n l r) (h : Ev (fun k => rot_Check.f k (n : Int) l r) (0, 0)) : Ev (fun k => faces_Flat.f k (n : Int) l r) (genus n l r == 0) := by
 unfold faces_Flat.f
 exact Ev.bind (genus_ok hm h) (Ev.congr (fun k => if_pos rfl) (Ev.now _))
theorem flat_bad {v e : Int} {a : Int} (he : e ≠ 0) (h : Ev (fun k => rot_Check.f k a l r) (v, e)) : Ev (fun k => faces_Flat.f k a l r) false := by
 unfold faces_Flat.f
 exact Ev.bind (genus_bad he h) (Ev.congr (fun k => if_neg he) (Ev.now _))
def MetB (n : Nat) (l : List Ed) (i : Nat) (M : List Bool) : Prop := M.length = n ∧ ∀ v, v < n → (gb M v = true ↔ 0 < cnt (frs l) (2 * i) v)
def loneTo (l : List Ed) (i : Nat) : Nat := (List.range i).countP fun (v : Nat) => cnt (frs l) (2 * l.length) (v : Int) == 0
end
end Go.Proofs.Ytmikcfddipldnaa.Rot
namespace Go.Proofs.Ytmikcfddipldnaa.Rot
open Go.RowKit Go.Proofs.YtmikcfddipldnaaW.PrintWords Go.Proofs.YtmikcfddipldnaaW.PrintLast Go.Proofs.YtmikcfddipldnaaW.PrintMore Go.Proofs.Ytmikcfddipldnaa.GAll Go.Proofs.Ytmikcfddipldnaa.Mem Go.Proofs.Ytmikcfddipldnaa.Ring Go.Proofs.Ytmikcfddipldnaa.Face
set_option linter.unusedVariables false
set_option linter.unusedSimpArgs false
theorem leftL_len (fs : List (List Int)) (M : Nat) : (leftL fs M).length = M := markRows_length fs M _
theorem equal_ev (n : Int) (l : List Ed) (hl : l.length ≤ 9000000000000000) : Ev (fun k => tangramref03_Equal.f k n l n l) true := by
 have loop : ∀ (d i : Nat), i + d = l.length → Ev (fun k => tangramref03_Equal.l0 k (i : Int) n l n l) true := by
   intro d
   induction d with
   | zero =>
     intro i hi
     refine Ev.step (f := fun _ => some true) (fun k => ?_) (Ev.now _)
     simp only [tangramref03_Equal.l0]
     rw [if_neg (by omega)]
   | succ d ih =>
     intro i hi
     refine Ev.step (f := fun k => tangramref03_Equal.l0 k ((i + 1 : Nat) : Int) n l n l) (fun k => ?_) (ih (i + 1) (by omega))
     simp only [tangramref03_Equal.l0]
     rw [if_pos (by omega), if_pos (by omega), if_pos (by omega), if_pos trivial, if_pos trivial, w1 (by omega)]
 have h0 : ((l.length : Int) != (l.length : Int)) = false := bne_eq_false_iff_eq.2 rfl
 unfold tangramref03_Equal.f
 refine Ev.congr (fun k => if_pos rfl) ?_
 rw [h0]
 refine Ev.step (f := fun k => tangramref03_Equal.l0 k ((0 : Nat) : Int) n l n l) (fun k => ?_) (loop l.length 0 (by omega))
 simp only [tangramref03_Equal.j0]
 rfl
theorem all_ev {α : Type} (g : Nat → Nat → Option α) (x : Nat → α) : ∀ M, (∀ h, h < M → Ev (g h) (x h)) → ∃ K, ∀ k, K ≤ k → ∀ h, h < M → g h k = some (x h)
 | 0, _ => ⟨0, fun k _ h hh => absurd hh (by omega)⟩
 | M + 1, H => by
   obtain ⟨K, hK⟩ := all_ev g x M (fun h hh => H h (by omega))
   obtain ⟨K2, hK2⟩ := H M (by omega)
   refine ⟨K + K2, fun k hk h hh => ?_⟩
   rcases Nat.lt_succ_iff_lt_or_eq.1 hh with c | rfl
   · exact hK k (by omega) h c
   · exact hK2 k (by omega)
theorem says (n : Int) (l : List Ed) (r : List (List Int)) (hl : l.length ≤ 8796093022208) (hs : Small r) : ∃ k e fs lf ge fl, Own.Says k n l r e fs lf ge fl := by
 obtain ⟨res, h1, h2, h3, h4, h5⟩ := both_check n l r hs
 obtain ⟨K1, q1⟩ := copy3_ev n l hl
 obtain ⟨K2, q2⟩ := equal_ev n l (by omega)
 have hrow : ∀ j, j < r.length → (gl r j).length * 8 ≤ 140737488351232 := fun j hj => by
   unfold gl
   rw [List.getD_eq_getElem?_getD, List.getElem?_eq_getElem hj]
   exact hs.2 _ (List.getElem_mem hj)
 obtain ⟨K3, q3⟩ := all_ev (fun h k => tangramref03_SameInts.f k (gl r h) (gl r h)) (fun _ => true) r.length (fun h hh => ints_same (by have := hrow h hh; omega))
 have key : ∀ {e fs lf ge fl}, Ev (fun k => faces_Of.f k n l r) (fs, e) → Ev (fun k => tangramref12_Of.f k n l r) (fs, e) → Ev (fun k => faces_Left.f k n l r) (lf, e) → Ev (fun k => tangramref12_Left.f k n l r) (lf, e) → Ev (fun k => faces_Genus.f k n l r) (ge, e) → Ev (fun k => faces_Flat.f k n l r) fl →
     fs.length ≤ 900000000 → (∀ x ∈ fs, x.length ≤ 900000000) → lf.length ≤ 900000000 → ∃ k e fs lf ge fl, Own.Says k n l r e fs lf ge fl := by
   intro e fs lf ge fl ⟨a1, b1⟩ ⟨a2, b2⟩ ⟨a3, b3⟩ ⟨a4, b4⟩ ⟨a5, b5⟩ ⟨a7, b7⟩ s1 s2 s3
   obtain ⟨a9, b9⟩ := lists_same fs s1 s2
   obtain ⟨a0, b0⟩ := ints_same (a := lf) (Nat.le_trans s3 (by decide))
   exact ⟨K1 + K2 + K3 + a1 + a2 + a3 + a4 + a5 + a7 + a9 + a0, e, fs, lf, ge, fl, q1 _ (by omega), b1 _ (by omega), b2 _ (by omega), b3 _ (by omega), b4 _ (by omega), b5 _ (by omega), b7 _ (by omega), b9 _ (by omega), b0 _ (by omega), q2 _ (by omega), q3 _ (by omega), s1, fun j hj => by
     unfold gl
     rw [List.getD_eq_getElem?_getD, List.getElem?_eq_getElem hj]
     exact s2 _ (List.getElem_mem hj), s3⟩
 by_cases he : res.2 = 0
 · obtain ⟨N, rfl, hg, hr⟩ := h4.1 he
   have hm : IsMap N l r := ⟨hg, hr⟩
   rw [h3 he] at h1 h2
   have hl := hm.lists
   have hll := hg.2.2.1
   exact key (of_ok hm h1) (refof_ok hm h2) (left_ok hm h1) (refleft_ok hm h2) (genus_ok hm h1) (flat_ok hm h1) (by omega) (fun x hx => by have := hl.2 x hx; omega) (by rw [leftL_len]; omega)
 · obtain ⟨v, e⟩ := res
   exact key (of_bad he h1) (refof_bad he h2) (left_bad he h1) (refleft_bad he h2) (genus_bad he h1) (flat_bad he h1) (by simp) (by simp) (by simp)
theorem FacesOwn (a0_0 : Int) (A0_1 : Option Addr) (c0_1 : Nat) (l0_1 : List Ed) (A1 : Option Addr) (c1 : Nat) (l1 : List (List Int)) (w : World) (hr0_1 : Kd.C k56 w A0_1 l0_1.length l0_1) (hc0_1 : l0_1.length ≤ c0_1) (hr1 : Kd.C (Kd.slice 3 (Kd.int .i64)) w A1 l1.length l1) (hc1 : l1.length ≤ c1)
   (g0 : Open.I64 a0_0 ∧ l0_1.length * 16 ≤ 140737488351232 ∧ ∀ x ∈ l0_1, Open.I64 x.f0 ∧ Open.I64 x.f1) (g1 : l1.length * 24 ≤ 140737488351232 ∧ ∀ x ∈ l1, x.length * 8 ≤ 140737488351232 ∧ ∀ y ∈ x, Open.I64 y) :
   Calls Try.prog 5 #[.agg #[.int .i64 a0_0, .slice A0_1 l0_1.length c0_1], .slice A1 l1.length c1] w fun e w' => e = .returned (.bool true) ∧ Below w.heap.size w w' := by
 have hs : Small l1 := ⟨g1.1, fun l hl => (g1.2 l hl).1⟩
 have hrow : ∀ j, j < l1.length → (gl l1 j).length * 8 ≤ 140737488351232 := fun j hj => by
   unfold gl
   rw [List.getD_eq_getElem?_getD, List.getElem?_eq_getElem hj]
   exact (g1.2 _ (List.getElem_mem hj)).1
 obtain ⟨k, e, fs, lf, ge, fl, H⟩ := says a0_0 l0_1 l1 (by omega) hs
 exact Own.own_walk k a0_0 A0_1 c0_1 l0_1 A1 c1 l1 w hr0_1 hc0_1 hr1 hc1 g1.1 hrow H
end Go.Proofs.Ytmikcfddipldnaa.Rot
